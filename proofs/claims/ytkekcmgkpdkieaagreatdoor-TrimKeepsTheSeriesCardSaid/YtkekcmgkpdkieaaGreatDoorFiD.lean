import Derived.Test.YtkekcmgkpdkieaaGreatDoorFiC
import Derived.Tactics
import Derived.Orders
set_option linter.unusedVariables false
set_option linter.unusedSimpArgs false
namespace Fi
open Go
section
variable {mn:Prop}
theorem fA (t:Tmp):fQ [] t=none:=by simp[fQ]
theorem uq (aN:List (Option Tmp))(d:Option Tmp)(t:Tmp):fQ (aN++[d]) t=if d=some t then some aN.length else fQ aN t:=by
 unfold fQ;rw[List.reverse_append,List.reverse_singleton,List.singleton_append]
 by_cases h:d=some t
 ·subst h;simp[List.idxOf?,Xw0]
 ·have hb:(d==some t)=false:=by simpa using h
  simp only[List.idxOf?,Xw0,hb,h,if_false];cases hc:List.findIdx? (fun x=>x==some t) aN.reverse with
  | none=>simp
  | some i =>
   simp only[Q30,Qi0,if_false,Qb0,Xc2]
   congr 1
   omega
theorem rD {aN:List (Option Tmp)}{t:Tmp}{j:Nat}(h:fQ aN t=some j):aN[j]?=some (some t):=by
 unfold fQ at h;split at h<;>simp at h;rename_i i hi;subst h;rw[List.idxOf?,Qt0]at hi;obtain⟨hl,h1,_⟩:=hi;rw[List.length_reverse]at hl;rw[List.getElem_reverse]at h1;rw[Qa1 ae];simpa using h1
theorem eval_put (a:Act)(d:Option Tmp)(x:Value)(t:Tmp)(hd:∀ u,d=some u->u<a.tmps.size):(a.put d x).eval (.tmp t)=if d=some t then x else a.eval (.tmp t):=by
 cases d with
 | none=>simp[Act.put]
 | some u =>
  have hu:=hd u rfl;simp only[Act.put,Act.eval,Qe2]
  by_cases h:u=t
  ·subst h;simp[hu]
  ·rw[if_neg h,Qt1,Qt1,Array.getElem?_setIfInBounds_ne h]
theorem Ee (a:Act)(d:Option Tmp)(x:Value):(a.put d x).tmps.size=a.tmps.size:=by cases d<;>simp[Act.put]
theorem put_defers (a:Act)(d:Option Tmp)(x:Value):(a.put d x).defers=a.defers:=by cases d<;>rfl
section tmps
variable {P:Program} {E:Env} {cx:Cx} {σ:Nat->Option FuncId} {β β':Map} {I I' Wr:Nat->Prop} {wd:Nat->Prop} {w w':World} {n:Nat} {vars:List FV} {env:List FV} {aN:List (Option Tmp)} {a:Act}
structure bA (σ:Nat->Option FuncId)(β:Map)(I:Nat->Prop)(w:World)(n:Nat)(cx:Cx)(vars:List FV)(aN:List (Option Tmp))(env:List FV)(a:Act):Prop where
 size:a.tmps.size=cx.ntmps
 var:∀ (j:Nat) (t:Tmp) (y:FV),cx.vars[j]?=some t->fQ aN t=none->vars[j]?=some y->aJ σ β I w n y (a.eval (.tmp t))
 loc:∀ (t:Tmp) (j:Nat) (y:FV),fQ aN t=some j->env[j]?=some y->aJ σ β I w n y (a.eval (.tmp t))
theorem bA.mono (h:bA σ β I w n cx vars aN env a)(hm:∀ k v x,β k v=some x->β' k v=some x)(hi:∀ b,I b->I' b)(hk:∀ b,I b->w'.heap[b]?=w.heap[b]?):bA σ β' I' w' n cx vars aN env a :=
 ⟨h.size,fun j t y h1 h2 h3=>(h.var j t y h1 h2 h3).mono hm hi hk,fun t j y h1 h2=>(h.loc t j y h1 h2).mono hm hi hk⟩
theorem bA.ext (h:bA σ β I w n cx vars aN env a)(hx:Ext mn β β' I I' Wr w w'):bA σ β' I' w' n cx vars aN env a:=h.mono hx.bm hx.im hx.fB
theorem bA.put (h:bA σ β I w n cx vars aN env a)(hl:env.length=aN.length){d:Option Tmp}(hd:yx cx d=true){v:FV}{x:Value}(hr:aJ σ β I w n v x) :
  bA σ β I w n cx vars (aN++[d]) (env++[v]) (a.put d x):=by
 have hd':∀ u,d=some u->u<a.tmps.size:=by
  intro u hu;subst hu;rw[h.size];simpa[yx] using hd
 refine⟨by rw[Ee];exact h.size,?_,?_⟩
 ·intro j t y h1 h2 h3;rw[uq]at h2;split at h2
  ·cases h2
  ·rename_i hne;rw[eval_put _ _ _ _ hd',if_neg hne];exact h.var j t y h1 h2 h3
 ·intro t j y h1 h2;rw[uq]at h1;rw[eval_put _ _ _ _ hd'];split at h1
  ·rename_i he;cases h1;rw[if_pos he];rw[<-hl]at h2;simp at h2;subst h2;exact hr
  ·rename_i hne;rw[if_neg hne];have hj:=(Qq1.1 (rD h1)).1;rw[Qa0 ae]at h2;exact h.loc t j y h1 h2
theorem oJ {l:List Tmp}{t:Tmp}{j:Nat}(h:l.idxOf? t=some j):l[j]?=some t:=by
 rw[List.idxOf?,Qt0]at h;obtain⟨hl,h1,_⟩:=h;rw[Qa1 hl];simpa using h1
theorem bA.args (h:bA σ β I w n cx vars aN env a)(bF:∀ f g,cx.gid f=some g->σ g=some f)(hG:dS E σ I w){st:St}(hn:st.base.length=n)(hv:st.vars=vars)(xs:List Operand) :
  bZ P E cx σ β I w st env aN a.eval xs:=by
 intro ty x y f hm hc hf;clear hm;subst hn;subst hv;unfold jh at hc;split at hc
 ·rename_i t;split at hc
  ·rename_i j hj;cases hc;exact h.loc t j f hj hf
  ·rename_i hno;split at hc<;>simp at hc;subst hc;rename_i j hj;exact h.var j t f (oJ hj) hno hf
 ·split at hc<;>simp at hc;subst hc;rename_i hx;simp only[dH,Qe2]at hf;subst hf;exact .d (uo bF hx)
 ·split at hc<;>simp at hc;subst hc;rename_i hx;simp only[dH,Qe2]at hf;subst hf;exact .d (.fn (bF _ _ hx))
 ·cases hc;simp only[dH]at hf;split at hf<;>simp at hf;subst hf;rename_i z hz;obtain⟨h1,h2,h3,_⟩:=hG _ _ hz;exact .rc h1 h2 h3
theorem bA.guard (h:bA σ β I w n cx vars aN env a){ops:Array Oper}{o:Oper}(hpre:∀ (j:Nat) (d:Option Tmp),aN[j]?=some d->(ops[j]?).bind (·.dst)=d)(hg:qY aN o.guard=true){b:Bool}(hb:mD env o.guard=some b) :
  Region.wanted o (yielded ops a.tmps)=b:=by
 unfold Region.wanted;unfold mD at hb;cases hgd:o.guard with
 | none=>rw[hgd]at hb;simpa using hb
 | some p =>
  obtain⟨j,want⟩:=p;rw[hgd]at hb hg;simp only[qY]at hg;split at hg
  ·rename_i t ht;have hl:fQ aN t=some j:=by simpa using hg
   have hd:=hpre j _ ht;simp only at hb ⊢;have hy:yielded ops a.tmps j=match a.tmps[t]? with|some (.bool b)=>some b|_=>none:=by
    unfold yielded;rw[hd];rfl
   rw[hy];cases hev:env[j]? with
   | none=>rw[hev]at hb;cases hb
   | some y =>
    have hr:=h.loc t j y hl hev;rw[hev]at hb;split at hb
    ·rename_i c he;cases he;cases hb;cases hr with
     | d hr =>
      generalize hz:a.eval (.tmp t)=z at hr;cases hr;have:a.tmps[t]?=some (.bool c):=by
       simp only[Act.eval,Qt1]at hz;cases hq:a.tmps[t]? with
       | none=>rw[hq]at hz;simp[undef]at hz
       | some q=>rw[hq]at hz;simp at hz;rw[hz]
      rw[this];cases c<;>cases want<;>rfl
    ·rename_i he;cases he;cases hb;cases hr with
     | d hr =>
      generalize hz:a.eval (.tmp t)=z at hr;cases hr with
      | @t _ vs hl' h2 =>
       have hvs:vs=#[]:=by simpa using hl'
       subst hvs;simp only[Act.eval,Qt1]at hz;cases hq:a.tmps[t]? with
       | none=>simp
       | some q=>rw[hq]at hz;simp at hz;rw[hz];simp
    ·cases hb
  ·cases hg
end tmps
end
section
theorem jE.back {n:Nat}{st st':St}{wd:Nat->Prop}(h:jE n st' wd)(k:st.aR=true->st'.aR=true):jE n st wd:=⟨h.1,fun hd=>h.2 (k hd)⟩
section yU
variable {σ:Nat->Option FuncId} {β:Map} {I Wr:Nat->Prop} {wd:Nat->Prop} {w:World} {n:Nat}
theorem aJ.yU:(v:FV)->{x:Value}->aJ σ β I w n (v.aA n) x->aJ σ β I w n v x
 | .u,x,_=>.u x
 | .d y,x,h=>h
 | .r (.loc i) off,x,h=>by
  simp only[FV.aA]at h;cases h with
  | r h=>exact .r (p:=.loc i) h
 | .r (.old i) off,x,h=>h
 | .e (.loc i) az sz j off,x,h=>by
  simp only[FV.aA]at h;cases h with
  | e h=>exact .e (p:=.loc i) h
 | .e (.old i) az sz j off,x,h=>h
 | .rc y,x,h=>h
 | .ls (.loc i) az sz off len,x,h=>by
  simp only[FV.aA]at h;cases h with
  | ls h hl ho=>exact .ls (p:=.loc i) h hl ho
 | .ls (.old i) az sz off len,x,h=>h
 | .m (.loc i),x,h=>by
  simp only[FV.aA]at h;cases h with
  | m h=>exact .m (p:=.loc i) h
 | .m (.old i),x,h=>h
 | .z sz,x,h=>h
 | .f g first captured,x,h=>by
  simp only[FV.aA,fu]at h;cases h with
  | f h h1 h2 hv hu =>
   refine .f h (by simpa using h1) (by simpa using h2) (fun i c x hc hx => ?_) (fun i c x hc hx => ?_)
   ·exact aJ.yU c (hv i _ x (by rw[Qc0,hc];rfl) hx)
   ·exact aJ.yU c (hu i _ x (by rw[Qc0,hc];rfl) hx)
 | .a cs,x,h=>by
  simp only[FV.aA,fu]at h;cases h with
  | a hl h =>
   refine .a (by simpa using hl) (fun i c x hc hx => ?_);exact aJ.yU c (h i _ x (by rw[Qc0,hc];rfl) hx)
 | .t cs,x,h=>by
  simp only[FV.aA,fu]at h;cases h with
  | t hl h =>
   refine .t (by simpa using hl) (fun i c x hc hx => ?_);exact aJ.yU c (h i _ x (by rw[Qc0,hc];rfl) hx)
termination_by v=>sizeOf v
decreasing_by
 all_goals
  have:=List.sizeOf_lt_of_mem (Qa2 hc);simp;omega
theorem ai.j_ {o:ai}{cs:List FV}{n:Nat}(h:o=.box cs):o.aA n=.box (cs.map (FV.aA n)):=by subst h;simp[ai.aA,fu]
theorem bq.yU {H H':List ai}(h:bq σ n β I Wr wd H w)(hl:H.length<=H'.length)(hm:∀ (k:Nat) (o':ai),H'[k]?=some o'->H[k]?=some o'\/H[k]?=some (o'.aA n)):bq σ n β I Wr wd H' w:=by
 have hlive:∀ {k:Nat} {o':ai},H'[k]?=some o'->∃ o,H[k]?=some o/\(∀ m,o.live β m=o'.live β m)/\(o=o'\/o=o'.aA n):=by
  intro k o' hk;rcases hm k o' hk with h1|h1
  ·exact⟨_,h1,fun _=>rfl,.inl rfl⟩
  ·exact⟨_,h1,fun m=>ai.wT _ _ _,.inr rfl⟩
 refine⟨h.mr,h.blt,h.kF,fun k v x hx=>Ql0 (h.dom k v x hx) hl,?_,?_,?_,?_,?_,?_,?_⟩
 ·intro k az sz es v x h1 h2;rcases hm k _ h1 with h3|h3
  ·exact h.mV _ _ _ _ _ _ h3 h2
  ·exact h.mV _ _ _ _ _ _ h3 h2
 ·intro k o b bo cap h1 h2;obtain⟨o',h3,h4,_⟩:=hlive h1;rw[<-h4]at h2;exact h.wr k o' b bo cap h3 h2
 ·intro k cs b bo cap h1 h2;rcases hm k _ h1 with h3|h3
  ·exact h.box k cs b bo cap h3 h2
  ·rw[ai.j_ rfl]at h3;obtain⟨a0,c,e',a1,a2,a3⟩:=h.box k _ b bo cap h3 h2;refine⟨a0,c,e',a1,by simpa using a2,fun j f x e1 e2 => ?_⟩;exact aJ.yU f (a3 j _ x (by rw[Qc0,e1];rfl) e2)
 ·intro k az sz es b bo cap h1 h2;rcases hm k _ h1 with h3|h3
  ·exact h.row _ _ _ _ _ _ _ h3 h2
  ·exact h.row _ _ _ _ _ _ _ h3 h2
 ·intro k az sz es b bo cap h1 h2;rcases hm k _ h1 with h3|h3
  ·exact h.iA _ _ _ _ _ _ _ h3 h2
  ·exact h.iA _ _ _ _ _ _ _ h3 h2
 ·intro k k' o1 o2 b bo cap wO cap' h1 h2 h3 h4;obtain⟨Zj,h5,h6,_⟩:=hlive h1;obtain⟨Zk,h7,h8,_⟩:=hlive h2;rw[<-h6]at h3;rw[<-h8]at h4;exact h.inj k k' Zj Zk b bo cap wO cap' h5 h7 h3 h4
 ·intro k es b bo cap h1 h2;rcases hm k _ h1 with h3|h3
  ·exact h.map _ _ _ _ _ h3 h2
  ·exact h.map _ _ _ _ _ h3 h2
end yU
section seq
variable {P:Program} {E:Env} {cx:Cx} {σ:Nat->Option FuncId} {Wr:Nat->Prop} {wd:Nat->Prop} {rec:Nat->List FV->List ai->bJ}
theorem p8 (bF:∀ f g,cx.gid f=some g->σ g=some f)(hB:Bodies P E σ)(hrl:fe rec)(hrec:kz P E σ rec){q:Bool}{β:Map}{I:Nat->Prop}{w:World}{st st':St}{aN:List (Option Tmp)}{env:List FV}{a:Act}{o:Oper}{k:K}{v:FV}
  (hG:dS E σ I w) (hT:bZ P E cx σ β I w st env aN a.eval o.op.operands.toList) (hc:bg P cx aN o=some k) (hk:runK E rec q st env k=some (v,st'))
  (hdt:k.loud q=true->jE st.base.length st' wd) (hS:fO σ β I Wr wd w st) :
  Yields P o a.eval w (Post E.mn σ st.base.length (st.base++st.loc).length β I Wr wd w st' v) :=
 OT (fun _=>rfl) (fun _=>rfl) bF hB hrl hrec hG hc hk hdt hS hT
theorem Ac (bF:∀ f g,cx.gid f=some g->σ g=some f)(hB:Bodies P E σ)(hrl:fe rec)(hrec:kz P E σ rec){q:Bool}{β:Map}{I:Nat->Prop}{w:World}{st st':St}{aN:List (Option Tmp)}{env:List FV}{a:Act}{o:Oper}{k:K}{v:FV}
  (hG:dS E σ I w) (hT:bZ P E cx σ β I w st env aN a.eval o.op.operands.toList) (hc:bg P cx aN o=some k.IV) (hk:runK E rec q st env k=some (v,st'))
  (hdt:k.loud q=true->jE st.base.length st' wd) (hS:fO σ β I Wr wd w st) :
  Yields P o a.eval w (Post E.mn σ st.base.length (st.base++st.loc).length β I Wr wd w st' v):=by
 cases k with
 | mJ f as ps =>
  obtain⟨_,st1,h1,h2⟩:=GI hk;have hd:jE st.base.length st1 wd:=by
   have:=hdt rfl;rcases h2 with ⟨rfl,_⟩|⟨_,rfl⟩
   ·exact this
   ·exact this
  have hy:=p8 bF hB hrl hrec hG hT hc h1 (fun _=>hd) hS;rcases h2 with ⟨rfl,_⟩|⟨e,rfl⟩
  ·exact hy
  ·have hkp:=pV hrl h1;refine hy.mono fun x w' ⟨β',I',g1,g2,g3,g4⟩=>⟨β',I',g1,?_,g3,g4⟩
   have hlen:st.loc.length<=st1.loc.length:=by
    have h7:=congrArg List.length e;simp only[Qk0,Ql1]at h7;omega
   refine g2.yU (by simp only[Qb0,Xe1];omega) (fun k o' hk' => ?_);have hb1:=hkp.base;simp only at hk' ⊢;rcases Qg0 k st1.base.length with hlt|hge
   ·rw[Qa0 hlt]at hk' ⊢;exact .inl hk'
   ·rw[Qb1 hge]at hk' ⊢;rcases Qg0 (k-st1.base.length) st.loc.length with h5|h5
    ·rw[Qa0 h5]at hk'
     right
     have h6:(st1.loc.take st.loc.length)[k-st1.base.length]?=some (o'.aA st.base.length):=by rw[e,Qc0,hk'];rfl
     rw[Qp2,if_pos h5]at h6;exact h6
    ·rw[Qb1 h5,Qy0]at hk'
     left
     rw[<-hk']
     congr 1
     omega
 | jq n p x ps=>exact p8 (k:=.store n p x) bF hB hrl hrec hG hT hc (oH hk).2 (fun _=>hdt rfl) hS
 | jS agg n p=>exact p8 (k:=.load agg n p) bF hB hrl hrec hG hT hc (nT hk).1 (fun h=>by simp[K.loud]at h) hS
 | _=>exact p8 bF hB hrl hrec hG hT hc hk hdt hS
theorem uT (bF:∀ f g,cx.gid f=some g->σ g=some f)(hB:Bodies P E σ)(hrl:fe rec)(hrec:kz P E σ rec){ops:Array Oper}{Q:Exit->Act->World->Prop} :
  ∀ (l:List Oper) {ks:List jM} {aN:List (Option Tmp)} {env ev:List FV} {st st':St} {a:Act} {w:World} {β:Map} {I:Nat->Prop},
   mW P cx l aN=some ks->ek E rec ks st env=some (st',ev)->env.length=aN.length->(∀ (j:Nat) (d:Option Tmp),aN[j]?=some d->(ops[j]?).bind (·.dst)=d) ->
   (∀ j,l[j]?=ops[aN.length+j]?)->jE st.base.length st' wd->fO σ β I Wr wd w st->dS E σ I w->bA σ β I w st.base.length cx st.vars aN env a ->
   (∀ β' I' w' a',Ext E.mn β β' I I' Wr w w'->bq σ st.base.length β' I' Wr wd (st'.base++st'.loc) w'->bA σ β' I' w' st.base.length cx st.vars (aN++l.map (·.dst)) ev a'->ev.length=(aN++l.map (·.dst)).length->a'.defers=a.defers->Q .normal a' w') ->
   wpList P ops Q l a w
 | [],ks,aN,env,ev,st,st',a,w,β,I,hc,hr,hl,hpre,hat,hm,hS,hG,hT,hQ=>by
  simp[mW]at hc;subst hc;simp only[ek,Qe2,Qo0]at hr;obtain⟨rfl,rfl⟩:=hr;exact hQ β I w a (Ext.refl _ _ _ _) hS (by simpa using hT) (by simpa using hl) rfl
 | o::l,ks,aN,env,ev,st,st',a,w,β,I,hc,hr,hl,hpre,hat,hm,hS,hG,hT,hQ=>by
  simp only[mW]at hc;split at hc
  ·rename_i hgd;simp only[Qc1]at hgd;split at hc<;>simp at hc;subst hc;rename_i k ks hk hks;have h0:ops[aN.length]?=some o:=by simpa using(hat 0).symm
   have hpre':∀ (j:Nat) (d:Option Tmp),(aN++[o.dst])[j]?=some d->(ops[j]?).bind (·.dst)=d:=by
    intro j d hj;rcases Qg0 j aN.length with h'|h'
    ·rw[Qa0 h']at hj;exact hpre j d hj
    ·rw[Qb1 h']at hj;have hj0:j-aN.length=0:=by
      rcases Qr1 (j-aN.length) with h|h
      ·exact h
      ·rw[Qq0 (by simp;omega)]at hj;cases hj
     rw[hj0]at hj;have:j=aN.length:=ae;subst this;rw[h0];simpa using hj
   have hat':∀ j,l[j]?=ops[(aN++[o.dst]).length+j]?:=by
    intro j;have:=hat (j+1);simp only[Qb0,Xc2];rw[show aN.length+1+j=aN.length+(j+1) by omega,<-this];simp
   simp only[ek]at hr;unfold wpList;split at hr
   ·cases hr
   ·rename_i hgv;have hw:=hT.guard (ops:=ops) hpre hgd.1 hgv;rw[hw];simp only[Qi0,if_false];have hT':=hT.put hl hgd.2 (v:=.d (.t [])) (x:=undef) mi;refine uT bF hB hrl hrec l hks hr (by simp[hl]) hpre' hat' hm hS hG hT' (fun β' I' w' a' h1 h2 h3 h4 h5=>hQ β' I' w' a' h1 h2 (by simpa using h3) (by simpa using h4) (by rw[h5,put_defers]))
   ·rename_i hgv;split at hr
    ·cases hr
    ·rename_i v st1 hrun;have hw:=hT.guard (ops:=ops) hpre hgd.1 hgv;rw[hw];simp only[if_true];have hkept:=pV hrl hrun;have af4:=l5 hrl _ hr;have hm1:jE st.base.length st1 wd:=hm.back af4.aR;refine .inl ((p8 bF hB hrl hrec hG (hT.args bF hG rfl rfl _) hk hrun (fun _=>hm1) hS).wp (fun x w' hp => ?_));obtain⟨β1,I1,hx,hS1,hR,_⟩:=hp;have hT1:=(hT.ext hx).put hl hgd.2 hR;rw[<-hkept.base,<-hkept.vars]at hT1;rw[<-hkept.base]at hS1;refine uT bF hB hrl hrec l hks hr (by simp[hl]) hpre' hat' (by rw[hkept.base];exact hm) hS1 (hG.mono hx.im hx.fB) hT1 (fun β' I' w' a' h1 h2 h3 h4 h5 => ?_);rw[hkept.base]at h2 h3;rw[hkept.vars]at h3;exact hQ β' I' w' a' (hx.trans h1) h2 (by simpa using h3) (by simpa using h4) (by rw[h5,put_defers])
  ·cases hc
end seq
end
section
def St.H (st:St):List ai:=st.base++st.loc
section run
variable {E:Env} {rec:Nat->List FV->List ai->bJ} {q:Bool} {st st':St} {env:List FV} {k:K} {v:FV}
theorem Ad {st2:St}(h:st2.vars=st.vars)(x:Arg):dH E st2 env x=dH E st env x:=by cases x<;>simp[dH,h]
theorem wU {st2:St}(h:st2.vars=st.vars):∀ xs:List Arg,fT E st2 env xs=fT E st env xs
 | []=>rfl
 | x::xs=>by simp only[fT,Ad h,wU h xs]
theorem lI (rs:List Ref)(st:St):(aL st rs).H.length=st.H.length:=by
 simp[St.H,(Kept.aL rs st).base,oV]
theorem YK (hr:fe rec)(h:runK E rec q st env k=some (v,st')):st.H.length<=st'.H.length:=by
 have hs:∀ {x y:FV} {a b:St},some (x,a)=some (y,b)->a=b:=fun h=>by cases h;rfl
 have hfull:∀ {q:Bool} {st':St} {g:Nat} {xs:List FV} {rows:List Ref},dC rec q st g xs rows=some (v,st')->st.H.length<=st'.H.length:=by
  intro q st' g xs rows h;unfold dC at h;split at h
  ·split at h
   ·cases hs h;exact Qe1 _
   ·split at h
    ·cases h
    ·cases hs h;exact Nat.le_of_eq (lI _ _).symm
  ·rename_i B hB;split at h
   ·cases h
   ·have:=hr _ _ _ _ _ hB;cases hs h;simp only[St.H,Xh1];have hl:=lI rows st;simp only[St.H,Ql1]at this hl;rw[hl]at this;exact this
  ·cases h
 have hcall:∀ {q:Bool} {st':St} {g:Nat} {xs:List FV},gD rec q st g xs=some (v,st')->st.H.length<=st'.H.length:=by
  intro q st' g xs h;unfold gD at h;split at h
  ·cases h
  ·split at h
   ·unfold eO at h;split at h
    ·split at h
     ·cases hs h;exact Qe1 _
     ·split at h
      ·cases h
      ·cases hs h;exact Nat.le_of_eq (lI _ _).symm
    ·split at h
     ·cases hs h;simp[St.H]
     ·split at h
      ·cases h
      ·cases hs h;have:=lI (xs.flatMap FV.rows) st;simp only[St.H,Qb0,Ql1]at this ⊢;omega
    ·cases h
   ·exact hfull h
 have adk:∀ {g:Nat} {xs:List FV},eu E rec st g xs=some (v,st')->st.H.length<=st'.H.length:=by
  intro g xs h;obtain⟨st1,h1,h2⟩:=lH h;rcases h2 with ⟨rfl,_⟩|⟨_,rfl⟩
  ·exact hcall h1
  ·have:=(lZ hr h1).base;simp only[St.H,Qb0,Xe1];omega
 cases k
 case call g args =>
  simp only[runK]at h;split at h
  ·exact hcall h
  ·cases h
 case nR f args =>
  simp only[runK]at h;split at h
  ·exact hcall h
  ·exact hcall h
  ·cases h
 case rO g args =>
  simp only[runK]at h;split at h
  ·exact hfull h
  ·cases h
 case jS agg n p =>
  replace h:=(nT h).1;simp only[runK]at h
  (repeat' split at h)<;>first
   | (cases h;done)
   | (cases hs h;exact Qe1 _)
 case mJ f args ps =>
  simp only[runK]at h;split at h
  ·split at h
   ·exact adk h
   ·exact adk h
   ·cases h
  ·cases h
 case jq n p x ps =>
  replace h:=(oH h).2;simp only[runK]at h
  (repeat' split at h)<;>first
   | (cases h;done)
   | (cases hs h;simp[St.H,Fi.kg,oG];done)
 all_goals
  simp only[runK]at h
  (repeat' split at h)<;>first
   | (cases h;done)
   | (cases hs h;exact Qe1 _)
   | (cases hs h;simp[St.H,St.push];done)
   | (cases hs h;simp[St.H,Fi.kg,oG];done)
theorem runK_pure (hm:k.mem=false)(h:runK E rec q st env k=some (v,st')):st'=st/\∀ st2:St,st2.vars=st.vars->runK E rec q st2 env k=some (v,st2):=by
 have hs:∀ {x y:FV} {a b:St},some (x,a)=some (y,b)->x=y/\a=b:=fun h=>by cases h;exact⟨rfl,rfl⟩
 cases k<;>first
  | (simp[K.mem]at hm;done)
  | skip
 case lit sz agg z nn parts =>
  have hn:nn≠0:=by simpa[K.mem] using hm
  simp only[runK,if_neg hn]at h;refine⟨?_,fun st2 h2 => ?_⟩
  ·(repeat' split at h)<;>first
    | (cases h;done)
    | (exact(hs h).2.symm)
  ·have hl:∀ xs,fT E st2 env xs=fT E st env xs:=wU h2;simp only[runK,hl,if_neg hn]
   (repeat' split at h)<;>first
    | (cases h;done)
    | (cases h;simp_all;done)
 all_goals
  simp only[runK]at h;refine⟨?_,fun st2 h2 => ?_⟩
  ·(repeat' split at h)<;>first
    | (cases h;done)
    | (exact(hs h).2.symm)
  ·have ha:dH E st2 env=dH E st env:=funext (Ad h2);have hl:∀ xs,fT E st2 env xs=fT E st env xs:=wU h2;simp only[runK,ha,hl]
   (repeat' split at h)<;>first
    | (cases h;done)
    | (cases h;simp_all;done)
    | (cases h;simp_all;omega)
theorem Ae {agg:Bool}{m:Nat}{x:Arg}(h:runK E rec q st env (.load agg m x)=some (v,st')) :
  st'=st/\∀ st2:St,st2.vars=st.vars->(∀ (p:Ref) (y:FV),dH E st env x=some y->((∃ off,y=.r p off)\/∃ az sz i off,y=.e p az sz i off)->st2.heap p=st.heap p)->runK E rec q st2 env (.load agg m x)=some (v,st2):=by
 have hs:∀ {x y:FV} {a b:St},some (x,a)=some (y,b)->x=y/\a=b:=fun h=>by cases h;exact⟨rfl,rfl⟩
 simp only[runK]at h;refine⟨?_,fun st2 h2 hh => ?_⟩
 ·(repeat' split at h)<;>first
   | (cases h;done)
   | (exact(hs h).2.symm)
 ·simp only[runK,Ad h2 x];generalize dH E st env x=y at*;cases y with
  | none=>cases h
  | some y =>
   cases y<;>first
    | (cases h;done)
    | skip
   ·rename_i p off;simp only[hh p _ rfl (.inl ⟨_,rfl⟩)]
    (repeat' split at h)<;>first
     | (cases h;done)
     | (cases h;simp_all;done)
   ·rename_i p az sz i off;simp only[hh p _ rfl (.inr ⟨_,_,_,_,rfl⟩)]
    (repeat' split at h)<;>first
     | (cases h;done)
     | (cases h;simp_all;done)
   ·(repeat' split at h)<;>first
     | (cases h;done)
     | (cases h;simp_all;done)
theorem OU {m:Nat}{b:Nat}{x:Arg}{p:Ref}{o0:Nat}(hb:st.vars[b]?=some (.r p o0))(h:runK E rec q st env (.store m (.var b) x)=some (v,st')):∃ o,st'.H=st.H.set (p.abs st.base.length) o:=by
 have hs:∀ {x y:FV} {a b:St},some (x,a)=some (y,b)->x=y/\a=b:=fun h=>by cases h;exact⟨rfl,rfl⟩
 simp only[runK,dH,hb]at h;split at h
 ·rename_i y1 y2 q' off v' e1 e2;cases e1;split at h
  ·split at h
   ·rw[<-(hs h).2];exact⟨_,St.dO _ _ _⟩
   ·cases h
  ·cases h
 ·rename_i h1 h2;cases h1
 ·cases h
theorem YL {m:Nat}{p x:Arg}(h:runK E rec q st env (.store m p x)=some (v,st')):∃ y qr o,dH E st env p=some y/\y.target=some qr/\st'.H=st.H.set (qr.abs st.base.length) o:=by
 have hs:∀ {x y:FV} {a b:St},some (x,a)=some (y,b)->x=y/\a=b:=fun h=>by cases h;exact⟨rfl,rfl⟩
 simp only[runK]at h;split at h
 ·rename_i e1 e2;split at h
  ·split at h
   ·rw[<-(hs h).2];exact⟨_,_,_,e1,rfl,St.dO _ _ _⟩
   ·cases h
  ·cases h
 ·rename_i e1 e2;split at h
  ·split at h
   ·split at h
    ·split at h
     ·rw[<-(hs h).2];exact⟨_,_,_,e1,rfl,St.dO _ _ _⟩
     ·cases h
    ·split at h
     ·rw[<-(hs h).2];exact⟨_,_,_,e1,rfl,St.dO _ _ _⟩
     ·cases h
    ·cases h
   ·cases h
  ·cases h
 ·cases h
theorem LU {p b:Arg}{yy:FV}{pp:Ref}(hb:dH E st env b=some yy)(hy:yy.target=some pp):∀ {ps:List Arg},kI E st env p ps=true->b ∈ ps ->
  ∀ {m:Nat} {x:Arg},runK E rec q st env (.store m p x)=some (v,st')->∃ (qr:Ref) (o:ai),st'.H=st.H.set (qr.abs st.base.length) o/\qr.abs st.base.length≠pp.abs st.base.length
 | [],_,hm,_,_,_=>by cases hm
 | a::r,h,hm,m,x,hk=>by
  simp only[kI,Qc1]at h;rcases Qj0.1 hm with rfl|hm
  ·obtain⟨y,qr,o,h1,h2,h3⟩:=YL hk;have h4:=h.1;simp only[h1,hb,h2,hy]at h4;exact⟨qr,o,h3,by simpa using h4⟩
  ·exact LU hb hy h.2 hm hk
theorem OV (hm:k.loud q=false)(h:runK E rec q st env k=some (v,st')):st'.base=st.base/\∃ new,st'.loc=st.loc++new:=by
 have hs:∀ {x y:FV} {a b:St},some (x,a)=some (y,b)->a=b:=fun h=>by cases h;rfl
 have hcall:∀ {g:Nat} {xs:List FV},q=true->gD rec q st g xs=some (v,st')->st'.base=st.base/\∃ new,st'.loc=st.loc++new:=by
  intro g xs hq h;subst hq;unfold gD at h;split at h
  ·cases h
  ·split at h
   ·unfold eO at h;split at h
    ·split at h
     ·cases hs h;exact⟨rfl,[],aC⟩
     ·cases h
    ·split at h
     ·cases hs h;exact⟨rfl,_,rfl⟩
     ·simp at h
    ·cases h
   ·unfold dC at h;split at h
    ·split at h
     ·cases hs h;exact⟨rfl,[],aC⟩
     ·cases h
    ·cases h
    ·cases h
 cases k
 case call g args =>
  simp only[runK]at h;split at h
  ·exact hcall (by simpa[K.loud] using hm) h
  ·cases h
 case nR f args =>
  simp only[runK]at h;split at h
  ·exact hcall (by simpa[K.loud] using hm) h
  ·exact hcall (by simpa[K.loud] using hm) h
  ·cases h
 case rO g args =>
  simp only[runK]at h;split at h
  ·have hq:q=true:=by simpa[K.loud] using hm
   subst hq;unfold dC at h;split at h
   ·split at h
    ·cases hs h;exact⟨rfl,[],aC⟩
    ·cases h
   ·cases h
   ·cases h
  ·cases h
 case store=>simp[K.loud]at hm
 case OB=>simp[K.loud]at hm
 case mJ=>simp[K.loud]at hm
 case jq=>simp[K.loud]at hm
 case clr=>simp[K.loud]at hm
 case jS agg n p =>
  replace h:=(nT h).1;simp only[runK]at h
  (repeat' split at h)<;>first
   | (cases h;done)
   | (cases hs h;exact⟨rfl,[],(Q11 _).symm⟩)
 case app sz bytes x y =>
  cases x with
  | c d =>
   cases d with
   | n fo =>
    simp only[runK,dH]at h
    (repeat' split at h)<;>first
     | (cases h;done)
     | (cases hs h;exact⟨rfl,_,rfl⟩)
     | (cases hs h;exact⟨rfl,[],(Q11 _).symm⟩)
     | (simp_all;done)
   | _=>simp[K.loud]at hm
  | _=>simp[K.loud]at hm
 all_goals
  simp only[runK]at h
  (repeat' split at h)<;>first
   | (cases h;done)
   | (cases hs h;exact⟨rfl,_,rfl⟩)
   | (cases hs h;exact⟨rfl,[],(Q11 _).symm⟩)
end run
end
section
section trace
variable {E:Env} {rec:Nat->List FV->List ai->bJ}
structure Trace (E:Env)(rec:Nat->List FV->List ai->bJ)(ks:List jM)(env:List FV)(f:Nat->St)(vs:List FV):Prop where
 len:vs.length=ks.length
 step:∀ i o,ks[i]?=some o->∃ v,vs[i]?=some v /\
  ((mD (env++vs.take i) o.guard=some false/\v=.d (.t [])/\f (i+1)=f i) \/
  (mD (env++vs.take i) o.guard=some true/\runK E rec o.q (f i) (env++vs.take i) o.k=some (v,f (i+1))))
theorem yV:∀ (ks:List jM) {st st':St} {env ev:List FV},ek E rec ks st env=some (st',ev)->∃ f vs,ev=env++vs/\f 0=st/\f ks.length=st'/\Trace E rec ks env f vs
 | [],st,st',env,ev,h=>by
  simp only[ek,Qe2,Qo0]at h;exact⟨fun _=>st,[],by simp[h.2],rfl,h.1,⟨rfl,fun i o hi=>by simp at hi⟩⟩
 | o::ks,st,st',env,ev,h=>by
  simp only[ek]at h;have key:∀ (v:FV) (st1:St),ek E rec ks st1 (env++[v])=some (st',ev) ->
    ((mD env o.guard=some false/\v=.d (.t [])/\st1=st)\/(mD env o.guard=some true/\runK E rec o.q st env o.k=some (v,st1))) ->
    ∃ f vs,ev=env++vs/\f 0=st/\f (o::ks).length=st'/\Trace E rec (o::ks) env f vs:=by
   intro v st1 hr h1;obtain⟨f,vs,e1,e2,e3,t⟩:=yV ks hr;refine⟨fun i=>match i with|0=>st|i+1=>f i,v::vs,by simp[e1],rfl,by simpa using e3,⟨by simp[t.len],fun i o' hi => ?_⟩⟩;cases i with
   | zero =>
    simp at hi;subst hi;refine⟨v,rfl,?_⟩;simp only[List.take_zero,Q11,e2];exact h1
   | succ i =>
    obtain⟨v',h2,h3⟩:=t.step i o' (by simpa using hi);refine⟨v',by simpa using h2,?_⟩;simpa using h3
  split at h
  ·cases h
  ·rename_i hg;exact key _ _ h (.inl ⟨hg,rfl,rfl⟩)
  ·rename_i hg;split at h
   ·cases h
   ·rename_i hr;exact key _ _ h (.inr ⟨hg,hr⟩)
end trace
inductive Zp (ops:List Oper):Nat->Nat->Prop
 | edge {i:Nat} {o:Oper} {e:Edge} (hi:ops[i]?=some o) (he:e ∈ o.after) (hb:Region.binds .any e=true):Zp ops i e.on
 | step {i j:Nat} {o:Oper} {e:Edge} (hi:ops[i]?=some o) (he:e ∈ o.after) (hb:Region.binds .any e=true) (h:Zp ops e.on j):Zp ops i j
theorem LV {ms:List Nat}{o:Oper}{j:Nat}(h:(OC ms o).testBit j=true):∃ e ∈ o.after,Region.binds .any e=true/\(e.on=j\/(ms.getD e.on 0).testBit j=true):=by
 have key:∀ (l:List Edge) (s:Nat),(l.foldl (fun s e=>if Region.binds .any e then s ||| (2 ^ e.on ||| ms.getD e.on 0) else s) s).testBit j=true ->
   s.testBit j=true\/∃ e ∈ l,Region.binds .any e=true/\(e.on=j\/(ms.getD e.on 0).testBit j=true):=by
  intro l
  induction l with
  | nil=>intro s h;exact .inl h
  | cons e l ih =>
   intro s h;rw[Qk2]at h;rcases ih _ h with h1|⟨e',h1,h2⟩
   ·by_cases hb:Region.binds .any e=true
    ·rw[if_pos hb,Nat.testBit_or,Nat.testBit_or,Xp1,Xp1]at h1;rcases h1 with h1|h1|h1
     ·exact .inl h1
     ·rw[Nat.testBit_two_pow]at h1;exact .inr ⟨e,aC,hb,.inl (by simpa using h1)⟩
     ·exact .inr ⟨e,aC,hb,.inr h1⟩
    ·rw[if_neg hb]at h1;exact .inl h1
   ·exact .inr ⟨e',by simp[h1],h2⟩
 rcases key _ _ h with h|⟨e,h1,h2⟩
 ·simp at h
 ·exact⟨e,by simpa using h1,h2⟩
theorem wV {ops:List Oper}:∀ (l:List Oper) (ms:List Nat),(∀ j,l[j]?=ops[ms.length+j]?)->(∀ i j,(ms.getD i 0).testBit j=true->Zp ops i j)->∀ i j,((masks l ms).getD i 0).testBit j=true->Zp ops i j
 | [],ms,_,h=>h
 | o::l,ms,hat,h=>by
  have h0:ops[ms.length]?=some o:=by simpa using(hat 0).symm
  refine wV l (ms++[OC ms o]) (fun j => ?_) (fun i j hb => ?_)
  ·have:=hat (j+1);simp only[Qb0,Xc2];rw[show ms.length+1+j=ms.length+(j+1) by omega,<-this];simp
  ·rw[Qh1]at hb;rcases Nat.lt_trichotomy i ms.length with hl|hl|hl
   ·rw[Qa0 hl,<-Qh1]at hb;exact h i j hb
   ·subst hl;rw[Qb1 (Qe1 _)]at hb;simp only[Q51,Qx0,Q80]at hb;obtain⟨e,he,hbd,h1⟩:=LV hb;rcases h1 with h1|h1
    ·subst h1;exact .edge h0 he hbd
    ·exact .step h0 he hbd (h _ _ h1)
   ·rw[Qq0 (by simp;omega)]at hb;simp at hb
def Ud (ops:List Oper)(i j:Nat):Prop:=(i<j->Zp ops j i)/\(j<i->Zp ops i j)
theorem rT {ops:List Oper}{i j:Nat}(h:comparable (masks ops []) i j=true):Ud ops i j:=by
 have hm:=wV (ops:=ops) ops [] aC (fun i j h=>by simp at h);unfold comparable at h;split at h
 ·exact⟨fun _=>hm _ _ h,fun h'=>by omega⟩
 ·exact⟨fun h'=>by omega,fun _=>hm _ _ h⟩
def Pass (x y:jM)(i j:Nat):Prop:=∃ ps g m a,((∃ f as,x.k=.mJ f as ps)\/∃ n p v,x.k=.jq n p v ps)/\y.k=.jS g m a/\j<i/\∃ b ∈ ps,yN a b=true
structure Ord (ops:List Oper)(ks:List jM)(apart:List (Nat × Nat)):Prop where
 edge:∀ (i:Nat) (o:Oper) e,ops[i]?=some o->e ∈ o.after->Region.binds .any e=true->e.on<i
 dst:∀ (i j:Nat) (o o':Oper) t,ops[i]?=some o->ops[j]?=some o'->i≠j->o.dst=some t->o'.dst≠some t/\(t ∈ tmpsOf o'->Ud ops i j)
 grd:∀ (i:Nat) (o:Oper) g b,ops[i]?=some o->o.guard=some (g,b)->Zp ops i g
 mem:∀ (i j:Nat) (x y:jM),ks[i]?=some x->ks[j]?=some y->i≠j->x.k.loud x.q=true->y.k.mem=true->Ud ops i j\/(y.q=true/\∃ p,LF x.k y.k=some p/\p ∈ apart)\/Pass x y i j
theorem I7 {ops:List Oper}{ks:List jM}{apart:List (Nat × Nat)}(h:IW ops (masks ops []) ks apart=true):Ord ops ks apart:=by
 simp only[IW,Qc1]at h;obtain⟨⟨⟨h1,h2⟩,h3⟩,h4⟩:=h;have mem:∀ {α:Type} (l:List α) (i:Nat) (x:α),l[i]?=some x->(x,i) ∈ l.zipIdx:=fun l i x hx=>by
  rw[Xs0];exact hx
 refine⟨?_,?_,?_,?_⟩
 ·intro i o e hi he hb;have:=Qh0.1 h1 _ (mem _ _ _ hi);have:=Qh0.1 this e (by simpa using he);simpa[hb] using this
 ·intro i j o o' t hi hj hne hd;have:=Qh0.1 h2 _ (mem _ _ _ hi);simp only[hd]at this;have:=Qh0.1 this _ (mem _ _ _ hj);simp only[Xp1,Qc1,beq_iff_eq]at this;rcases this with h|⟨h5,h6⟩
  ·exact absurd h hne
  ·refine⟨by simpa using h5,fun ht => ?_⟩;rcases h6 with h6|h6
   ·simp[ht]at h6
   ·exact rT h6
 ·intro i o g b hi hg;have:=Qh0.1 h3 _ (mem _ _ _ hi);simp only[hg]at this;exact wV (ops:=ops) ops [] aC (fun i j h=>by simp at h) _ _ this
 ·intro i j x y hi hj hne hl hm;have:=Qh0.1 h4 _ (mem _ _ _ hi);simp only[hl,Xk2,Xg2]at this;have:=Qh0.1 this _ (mem _ _ _ hj);simp only[hm,Xk2,Xp1,beq_iff_eq,Qi0,or_false]at this;rcases this with ((h|h)|h)|h
  ·exact absurd h hne
  ·exact .inl (rT h)
  ·right;left
   rw[Qc1]at h;refine⟨h.1,?_⟩;have h:=h.2;split at h
   ·exact⟨_,by assumption,by simpa using h⟩
   ·cases h
  ·right;right
   unfold passes at h;split at h
   ·rename_i f as ps g m a e1 e2;rw[Qc1]at h;obtain⟨b,hb,hs⟩:=Xk0.1 h.2;exact⟨ps,g,m,a,.inl ⟨f,as,e1⟩,e2,by simpa using h.1,b,hb,hs⟩
   ·rename_i n p v ps g m a e1 e2;rw[Qc1]at h;obtain⟨b,hb,hs⟩:=Xk0.1 h.2;exact⟨ps,g,m,a,.inr ⟨n,p,v,e1⟩,e2,by simpa using h.1,b,hb,hs⟩
   ·cases h
theorem TB {P:Program}{ops:Array Oper}{Q:Exit->Act->World->Prop}(Inv:Array Bool->Act->World->Prop)
  (ai1:∀ (i:Nat) (o:Oper) e,ops[i]?=some o->e ∈ o.after->Region.binds .any e=true->e.on<i)
  (hstep:∀ listed a w i,listed.size=ops.size->(∀ (j:Nat) (o:Oper) e,ops[j]?=some o->listed.getD j false=true->e ∈ o.after->Region.binds .any e=true->listed.getD e.on false=true)->Inv listed a w ->
   i ∈ Region.ready .any ops listed->∀ K:Act->World->Prop,(∀ a' w',Inv (listed.setIfInBounds i true) a' w'->K a' w')->wpOp P ops Q i K a w)
  (hdone:∀ listed a w,Inv listed a w->(∀ i,i<ops.size->listed.getD i false=true)->Q .normal a w) :
  ∀ (fuel:Nat) (listed:Array Bool) (a:Act) (w:World),listed.size=ops.size ->
   (∀ (j:Nat) (o:Oper) e,ops[j]?=some o->listed.getD j false=true->e ∈ o.after->Region.binds .any e=true->listed.getD e.on false=true) ->
   listed.toList.count false<=fuel->Inv listed a w->wpAny P .any ops Q fuel listed a w:=by
 have YM:∀ listed:Array Bool,listed.size=ops.size->Region.ready .any ops listed=[]->∀ i,i<ops.size->listed.getD i false=true:=by
  intro listed hs hr i
  induction i using Nat.strongRecOn with
  | ind i ih =>
   intro hi;cases hc:listed.getD i false with
   | true=>rfl
   | false =>
    have hm:i ∈ Region.ready .any ops listed:=by
     rw[mem_ready];refine⟨?_,_,Qh2 hi,fun e he hb => ?_⟩
     ·simp only[Qt1]at hc ⊢;rw[Qh2 ae]at hc ⊢;simpa using hc
     ·have:=ai1 i _ e (Qh2 hi) he hb;exact ih _ this ae
    rw[hr]at hm;cases hm
 intro fuel
 induction fuel with
 | zero =>
  intro listed a w hs hcl hct hI;have hr:Region.ready .any ops listed=[]:=by
   rw[List.eq_nil_iff_forall_not_mem];intro i hi;have h1:=(mem_ready.1 hi).1;have:false ∈ listed.toList:=by
    rcases Qg0 i listed.size with hl|hl
    ·simp[hl]at h1;have h2:listed.toList[i]?=some false:=by rw[Qv1,Qh2 hl,h1]
     exact Qa2 h2
    ·simp[X02 hl]at h1
   have:=List.count_pos_iff.2 this;omega
  exact⟨hr,hdone listed a w hI (YM listed hs hr)⟩
 | succ fuel ih =>
  intro listed a w hs hcl hct hI;refine⟨fun hr=>hdone listed a w hI (YM listed hs hr),fun i hi => ?_⟩;refine hstep listed a w i hs hcl hI hi _ (fun a' w' hI'=>ih _ a' w' (by simp[hs]) ?_ ?_ hI')
  ·intro j o e hj hl he hb;obtain⟨_,oi,hoi,hall⟩:=mem_ready.1 hi
   by_cases hij:i=j
   ·subst hij;rw[hoi]at hj;cases hj;exact getD_set_true (hall e he hb)
   ·rw[getD_set_ne _ hij]at hl;exact getD_set_true (hcl j o e hj hl he hb)
  ·have h1:=(mem_ready.1 hi).1;have hil:i<listed.size:=by
    rcases Qg0 i listed.size with hl|hl
    ·exact hl
    ·simp[X02 hl]at h1
   have h2:listed[i]=false:=by simpa[hil] using h1
   rw[Array.toList_setIfInBounds,List.count_set (by simpa using hil)];simp only[Array.getElem_toList,h2];have:0<listed.toList.count false:=by
    rw[List.count_pos_iff];have h3:listed.toList[i]?=some false:=by rw[Qv1,Qh2 hil,h2]
    exact Qa2 h3
   have h5:(true==false)=false:=rfl;simp only[beq_self_eq_true,if_true,h5,Qi0,if_false];omega
end
section
section qU
variable {σ:Nat->Option FuncId} {β:Map} {I Wr:Nat->Prop} {wd:Nat->Prop} {w:World} {n:Nat} {H T:List ai}
theorem bP {H T:List ai}{k:Nat}{o:ai}(h:H[k]?=some o):(H++T)[k]?=some o:=by
 rw[Qa0 (aU h)];exact h
theorem Af {β:Map}{k:Nat}{o:ai}{x:Nat × Nat × Nat}(h:o.live β k=some x):∃ v,β k v=some x:=by
 cases o with
 | box cs=>exact⟨0,h⟩
 | row az sz es=>exact⟨az,h⟩
 | iA az sz es=>cases h
 | map es=>exact⟨0,h⟩
theorem bq.pre (h:bq σ n β I Wr wd (H++T) w)(hn:∀ k v,H.length<=k->β k v=none):bq σ n β I Wr wd H w:=by
 refine⟨h.mr,h.blt,h.kF,fun k v x hx => ?_,fun k az sz es v x h1 h2=>h.mV k az sz es v x (bP h1) h2,fun k o b bo cap h1 h2=>h.wr k o b bo cap (bP h1) h2,
  fun k cs b bo cap h1 h2=>h.box k cs b bo cap (bP h1) h2,fun k az sz es b bo cap h1 h2=>h.row k az sz es b bo cap (bP h1) h2,
  fun k az sz es b bo cap h1 h2=>h.iA k az sz es b bo cap (bP h1) h2,fun k k' o o' b bo cap wO cap' h1 h2 h3 h4=>h.inj k k' o o' b bo cap wO cap' (bP h1) (bP h2) h3 h4,
  fun k es b bo cap h1 h2=>h.map k es b bo cap (bP h1) h2⟩
 rcases Qg0 k H.length with hl|hl
 ·exact hl
 ·rw[hn k v hl]at hx;cases hx
theorem bq.app (h:bq σ n β I Wr wd H w)(T:List ai):bq σ n β I Wr wd (H++T) w:=by
 have hget:∀ (k:Nat) (o:ai) v x,(H++T)[k]?=some o->β k v=some x->H[k]?=some o:=fun k o v x h1 h2=>by
  rw[Qa0 (h.dom _ _ _ h2)]at h1;exact h1
 refine⟨h.mr,h.blt,h.kF,fun k v x hx=>by rw[Qb0];exact Ql0 (h.dom _ _ _ hx) (Nat.le_add_right _ _),fun k az sz es v x h1 h2=>h.mV k az sz es v x (hget _ _ _ _ h1 h2) h2,
  fun k o b bo cap h1 h2 => ?_,fun k cs b bo cap h1 h2=>h.box k cs b bo cap (hget _ _ _ _ h1 h2) h2,fun k az sz es b bo cap h1 h2=>h.row k az sz es b bo cap (hget _ _ _ _ h1 h2) h2,
  fun k az sz es b bo cap h1 h2=>h.iA k az sz es b bo cap (hget _ _ _ _ h1 h2) h2,fun k k' o o' b bo cap wO cap' h1 h2 h3 h4 => ?_,fun k es b bo cap h1 h2=>h.map k es b bo cap (hget _ _ _ _ h1 h2) h2⟩
 ·obtain⟨v,hv⟩:=Af h2;exact h.wr k o b bo cap (hget _ _ _ _ h1 hv) h2
 ·obtain⟨v,hv⟩:=Af h3;obtain⟨v',hv'⟩:=Af h4;exact h.inj k k' o o' b bo cap wO cap' (hget _ _ _ _ h1 hv) (hget _ _ _ _ h2 hv') h3 h4
def Map.upto (β:Map)(m:Nat):Map:=fun k v=>if k<m then β k v else none
theorem Map.rE {β:Map}{m k v:Nat}(h:k<m):β.upto m k v=β k v:=by simp[Map.upto,h]
theorem Map.df {β:Map}{m k v:Nat}{x:Nat × Nat × Nat}(h:β.upto m k v=some x):k<m/\β k v=some x:=by
 unfold Map.upto at h;split at h
 ·exact⟨by assumption,h⟩
 ·cases h
theorem bq.first {A:List ai}(h:bq σ n β I Wr wd (A++T) w)(Tu:∀ (k:Nat) cs b bo cap,A[k]?=some (.box cs)->β k 0=some (b,bo,cap)->∀ (j:Nat) (f:FV) (x:Value),cs[j]?=some f->aJ σ β I w n f x->aJ σ (β.upto A.length) I w n f x) :
  bq σ n (β.upto A.length) I (fun b=>w.heap.size<=b) (fun k=>A.length<=k) A w:=by
 have hget:∀ (k:Nat) (o:ai),A[k]?=some o->(A++T)[k]?=some o/\k<A.length:=fun k o h1=>⟨bP h1,(aU h1)⟩
 have hlive:∀ (k:Nat) (o:ai),k<A.length->o.live (β.upto A.length) k=o.live β k:=fun k o hk=>by cases o<;>simp[ai.live,Map.rE hk]
 refine⟨h.mr,fun k v b bo cap hb=>h.blt _ _ _ _ _ (Map.df hb).2,fun b hb=>hb,fun k v x hx=>(Map.df hx).1,fun k az sz es v x h1 h2=>h.mV k az sz es v x (hget _ _ h1).1 (Map.df h2).2,
  fun k o b bo cap h1 h2 => ?_,fun k cs b bo cap h1 h2 => ?_,fun k az sz es b bo cap h1 h2=>h.row k az sz es b bo cap (hget _ _ h1).1 (Map.df h2).2,
  fun k az sz es b bo cap h1 h2=>h.iA k az sz es b bo cap (hget _ _ h1).1 (Map.df h2).2,fun k k' o o' b bo cap wO cap' h1 h2 h3 h4 => ?_,fun k es b bo cap h1 h2=>h.map k es b bo cap (hget _ _ h1).1 (Map.df h2).2⟩
 ·obtain⟨g1,g2⟩:=hget _ _ h1;rw[hlive _ _ g2]at h2;exact⟨fun hk=>by omega,(h.wr k o b bo cap g1 h2).2⟩
 ·obtain⟨g1,g2⟩:=hget _ _ h1;obtain⟨a0,c,e,a1,a2,a3⟩:=h.box k cs b bo cap g1 (Map.df h2).2;exact⟨a0,c,e,a1,a2,fun j f x e1 e2=>Tu k cs b bo cap h1 (Map.df h2).2 j f x e1 (a3 j f x e1 e2)⟩
 ·obtain⟨g1,g2⟩:=hget _ _ h1;obtain⟨g3,g4⟩:=hget _ _ h2;rw[hlive _ _ g2]at h3;rw[hlive _ _ g4]at h4;exact h.inj k k' o o' b bo cap wO cap' g1 g3 h3 h4
end qU
end
section
inductive wW (n m:Nat):FV->Prop
 | u:wW n m .u
 | d (y:D):wW n m (.d y)
 | r {p:Ref} {off:Nat} (h:p.abs n<m):wW n m (.r p off)
 | e {p:Ref} {az sz i off:Nat} (h:p.abs n<m):wW n m (.e p az sz i off)
 | rc (y:D):wW n m (.rc y)
 | ls {p:Ref} {az sz off len:Nat} (h:p.abs n<m):wW n m (.ls p az sz off len)
 | m {p:Ref} (h:p.abs n<m):wW n m (.m p)
 | z (sz:Nat):wW n m (.z sz)
 | f {g:Nat} {first captured:List FV} (h1:∀ c ∈ first,wW n m c) (h2:∀ c ∈ captured,wW n m c):wW n m (.f g first captured)
 | a {cs:List FV} (h:∀ c ∈ cs,wW n m c):wW n m (.a cs)
 | t {cs:List FV} (h:∀ c ∈ cs,wW n m c):wW n m (.t cs)
theorem wW.mono {n m m':Nat}{v:FV}(h:wW n m v)(hm:m<=m'):wW n m' v:=by
 induction h with
 | u=>exact .u
 | d y=>exact .d y
 | r h=>exact .r (Ql0 h hm)
 | e h=>exact .e (Ql0 h hm)
 | rc y=>exact .rc y
 | ls h=>exact .ls (Ql0 h hm)
 | m h=>exact .m (Ql0 h hm)
 | z sz=>exact .z sz
 | f _ _ ih1 ih2=>exact .f ih1 ih2
 | a _ ih=>exact .a ih
 | t _ ih=>exact .t ih
section bnd
variable {σ:Nat->Option FuncId} {β:Map} {I:Nat->Prop} {w:World} {n m:Nat} {v:FV} {x:Value}
theorem wX {α:Type}{cs:List α}{vs:Array Value}(hl:vs.size=cs.length){c:α}(hc:c ∈ cs):∃ (i:Nat) (y:Value),cs[i]?=some c/\vs[i]?=some y:=by
 obtain⟨i,hi,rfl⟩:=Xn0 hc;exact⟨i,vs[i]'(by omega),Qa1 hi,Qh2 ae⟩
theorem aJ.bnd (h:aJ σ β I w n v x)(hd:∀ k v x,β k v=some x->k<m):wW n m v:=by
 induction h with
 | u x=>exact .u
 | d h=>exact .d _
 | r h=>exact .r (hd _ _ _ h)
 | e h=>exact .e (hd _ _ _ h)
 | rc hb ho h=>exact .rc _
 | ls h hl ho=>exact .ls (hd _ _ _ h)
 | m h=>exact .m (hd _ _ _ h)
 | z=>exact .z _
 | f h h1 h2 _ _ ih1 ih2 =>
  refine .f (fun c hc => ?_) (fun c hc => ?_)
  ·obtain⟨i,y,e1,e2⟩:=wX h1 hc;exact ih1 i c y e1 e2
  ·obtain⟨i,y,e1,e2⟩:=wX h2 hc;exact ih2 i c y e1 e2
 | a hl _ ih=>exact .a (fun c hc=>by obtain⟨i,y,e1,e2⟩:=wX hl hc;exact ih i c y e1 e2)
 | t hl _ ih=>exact .t (fun c hc=>by obtain⟨i,y,e1,e2⟩:=wX hl hc;exact ih i c y e1 e2)
theorem aJ.upto (h:aJ σ β I w n v x)(hb:wW n m v):aJ σ (β.upto m) I w n v x:=by
 induction h with
 | u x=>exact .u x
 | d h=>exact .d h
 | r h=>cases hb with | r hb=>exact .r ((Map.rE hb).trans h)
 | e h=>cases hb with | e hb=>exact .e ((Map.rE hb).trans h)
 | rc h0 ho h=>exact .rc h0 ho h
 | ls h hl ho=>cases hb with | ls hb=>exact .ls ((Map.rE hb).trans h) hl ho
 | m h=>cases hb with | m hb=>exact .m ((Map.rE hb).trans h)
 | z=>exact .z
 | f h h1 h2 _ _ ih1 ih2 =>
  cases hb with
  | f b1 b2=>exact .f h h1 h2 (fun i c x e1 e2=>ih1 i c x e1 e2 (b1 c (Qa2 e1))) (fun i c x e1 e2=>ih2 i c x e1 e2 (b2 c (Qa2 e1)))
 | a hl _ ih=>cases hb with | a b=>exact .a hl (fun i c x e1 e2=>ih i c x e1 e2 (b c (Qa2 e1)))
 | t hl _ ih=>cases hb with | t b=>exact .t hl (fun i c x e1 e2=>ih i c x e1 e2 (b c (Qa2 e1)))
end bnd
def ai.blank:ai->ai
 | .box cs=>.box (cs.map fun _=>.u)
 | o=>o
theorem bq.blank {σ:Nat->Option FuncId}{β:Map}{I Wr:Nat->Prop}{wd:Nat->Prop}{w:World}{n m:Nat}{G:List ai}(h:bq σ n β I Wr wd G w) :
  bq σ n (β.upto m) I (fun b=>w.heap.size<=b) (fun _=>False) ((G.take m).map ai.blank) w:=by
 have hget:∀ (k:Nat) (o:ai),((G.take m).map ai.blank)[k]?=some o->k<m/\∃ o',G[k]?=some o'/\o'.blank=o:=by
  intro k o hk;simp only[Qc0,Qf2,Qp2]at hk;obtain⟨o',h1,h2⟩:=hk;split at h1
  ·exact⟨by assumption,o',h1,h2⟩
  ·cases h1
 have hrow:∀ (o:ai) az sz es,o.blank=.row az sz es->o=.row az sz es:=by intro o;cases o<;>simp[ai.blank]
 have alK:∀ (o:ai) az sz es,o.blank=.iA az sz es->o=.iA az sz es:=by intro o;cases o<;>simp[ai.blank]
 have hmap:∀ (o:ai) es,o.blank=.map es->o=.map es:=by intro o;cases o<;>simp[ai.blank]
 have hlive:∀ (o:ai) k x,o.blank.live (β.upto m) k=some x->o.live β k=some x:=by
  intro o k x hx;cases o with
  | box cs=>exact(Map.df hx).2
  | row az sz es=>exact(Map.df hx).2
  | iA az sz es=>cases hx
  | map es=>exact(Map.df hx).2
 refine⟨h.mr,fun k v b bo cap hb=>h.blt _ _ _ _ _ (Map.df hb).2,fun b hb=>hb,fun k v x hx => ?_,fun k az sz es v x h1 h2 => ?_,fun k o b bo cap h1 h2=>⟨fun hf=>hf.elim,?_⟩,fun k cs b bo cap h1 h2 => ?_,
  fun k az sz es b bo cap h1 h2 => ?_,fun k az sz es b bo cap h1 h2 => ?_,fun k k' o1 o2 b bo cap wO cap' h1 h2 h3 h4 => ?_,fun k es b bo cap h1 h2 => ?_⟩
 ·obtain⟨h1,h2⟩:=Map.df hx;have:=h.dom _ _ _ h2;simp;omega
 ·obtain⟨_,o',h3,h4⟩:=hget k _ h1;have:=hrow _ _ _ _ h4;subst this;exact h.mV _ _ _ _ _ _ h3 (Map.df h2).2
 ·obtain⟨_,o',h3,rfl⟩:=hget k _ h1;exact(h.wr k o' b bo cap h3 (hlive _ _ _ h2)).2
 ·obtain⟨_,o',h3,h4⟩:=hget k _ h1;cases o' with
  | box cs' =>
   simp only[ai.blank,ai.box.injEq]at h4;subst h4;obtain⟨a0,c,e,a1,a2,a3⟩:=h.box k cs' b bo cap h3 (Map.df h2).2;refine⟨a0,c,e,a1,by simpa using a2,fun j f x e1 e2 => ?_⟩;simp only[Qc0,Qf2]at e1;obtain⟨_,_,rfl⟩:=e1;exact .u x
  | row az sz es=>simp[ai.blank]at h4
  | iA az sz es=>simp[ai.blank]at h4
  | map es=>simp[ai.blank]at h4
 ·obtain⟨_,o',h3,h4⟩:=hget k _ h1;have:=hrow _ _ _ _ h4;subst this;exact h.row _ _ _ _ _ _ _ h3 (Map.df h2).2
 ·obtain⟨_,o',h3,h4⟩:=hget k _ h1;have:=alK _ _ _ _ h4;subst this;exact h.iA _ _ _ _ _ _ _ h3 (Map.df h2).2
 ·obtain⟨_,Zj,h5,rfl⟩:=hget k _ h1;obtain⟨_,Zk,h6,rfl⟩:=hget k' _ h2;exact h.inj k k' Zj Zk b bo cap wO cap' h5 h6 (hlive _ _ _ h3) (hlive _ _ _ h4)
 ·obtain⟨_,o',h3,h4⟩:=hget k _ h1;have:=hmap _ _ h4;subst this;exact h.map _ _ _ _ _ h3 (Map.df h2).2
end
section
variable {mn:Prop}
section merge
variable {σ:Nat->Option FuncId} {β β' β1 β2:Map} {I I' Wr:Nat->Prop} {wd:Nat->Prop} {w w':World} {n:Nat}
def Map.over (β β':Map)(m:Nat):Map:=fun k v=>if k<m then β' k v else β k v
theorem Map.jH {m k v:Nat}(h:k<m):Map.over β β' m k v=β' k v:=by simp[Map.over,h]
theorem Map.nA {m k v:Nat}(h:m<=k):Map.over β β' m k v=β k v:=by simp[Map.over,Nat.not_lt.2 h]
theorem bq.after {G:List ai}(h:bq σ n β I Wr wd G w)(hx:Ext mn β1 β2 I I' (fun b=>w.heap.size<=b) w w')(hi:∀ b,I' b->b<w'.heap.size):bq σ n β I' Wr wd G w' :=
 (h.grow hx.size (fun b hb=>hx.keepW b hb ae)).af3 hx.im hi (fun k o b bo cap h1 h2 hb=>(hx.iI b hb).elim (h.wr k o b bo cap h1 h2).2 (fun hsz=>by have:=ku h h2;omega))
theorem Ext.after (hx:Ext mn β1 β2 I I' (fun b=>w.heap.size<=b) w w')(hw:∀ b,w.heap.size<=b->Wr b)(β:Map):Ext mn β β I I' Wr w w' :=
 ⟨fun _ _ _ h=>h,hx.im,fun b hb=>(hx.iI b hb).imp id (hw b),hx.size,hx.fB,fun b hb _=>hx.keepW b hb ae,hx.os,hx.tape,hx.output,hx.drawn⟩
theorem bq.af5 {A B C:List ai}(h:bq σ n β I Wr wd (A++B++C) w)(af6:∀ k v,A.length<=k->k<A.length+B.length->β k v=none)
  (hx:Ext mn (β.upto A.length) β' I I' (fun b=>w.heap.size<=b) w w') (hS:bq σ n β' I' (fun b=>w.heap.size<=b) (fun k=>A.length<=k) (A++B) w') (hk:∀ k u,k<A.length->β' k u=β k u) :
  Ext mn β (Map.over β β' (A.length+B.length)) I I' Wr w w'/\bq σ n (Map.over β β' (A.length+B.length)) I' Wr wd (A++B++C) w':=by
 have hlen:(A++B).length=A.length+B.length:=Qb0;have Ms:∀ k v x,β k v=some x->Map.over β β' (A.length+B.length) k v=some x:=by
  intro k v x hb;rcases Qg0 k (A.length+B.length) with hl|hl
  ·rw[Map.jH hl];rcases Qg0 k A.length with hl'|hl'
   ·rw[hk k v hl'];exact hb
   ·rw[af6 k v hl' hl]at hb;cases hb
  ·rw[Map.nA hl];exact hb
 have alL:∀ k v x,β' k v=some x->Map.over β β' (A.length+B.length) k v=some x:=by
  intro k v x hb;have:=hS.dom k v x hb;rw[hlen]at this;rw[Map.jH this];exact hb
 have hkeep:∀ b,b<w.heap.size->w'.heap[b]?=w.heap[b]?:=fun b hb=>hx.keepW b hb ae
 have OE:Ext mn β (Map.over β β' (A.length+B.length)) I I' Wr w w' :=
  ⟨Ms,hx.im,fun b hb=>(hx.iI b hb).imp id (h.kF b),hx.size,hx.fB,fun b hb _=>hkeep b hb,hx.os,hx.tape,hx.output,hx.drawn⟩
 refine⟨OE,?_⟩;have hget:∀ (k:Nat) (o:ai),(A++B++C)[k]?=some o->k<A.length+B.length->(A++B)[k]?=some o:=fun k o h1 h2=>by
  rw[Qa0 (by rw[hlen];exact h2)]at h1;exact h1
 have hlive:∀ (k:Nat) (o:ai),k<A.length+B.length->o.live (Map.over β β' (A.length+B.length)) k=o.live β' k:=fun k o hk=>by cases o<;>simp[ai.live,Map.jH hk]
 have nW:∀ (k:Nat) (o:ai),A.length+B.length<=k->o.live (Map.over β β' (A.length+B.length)) k=o.live β k:=fun k o hk=>by cases o<;>simp[ai.live,Map.nA hk]
 have YN:∀ (k:Nat) (o:ai),k<A.length->o.live β' k=o.live β k:=fun k o hk'=>by cases o<;>simp[ai.live,hk _ _ hk']
 refine⟨hS.mr,?_,fun b hb=>h.kF b (Qd1 hx.size hb),?_,?_,?_,?_,?_,?_,?_,?_⟩
 ·intro k v b bo cap hb;unfold Map.over at hb;split at hb
  ·exact hS.blt _ _ _ _ _ hb
  ·exact Ql0 (h.blt _ _ _ _ _ hb) hx.size
 ·intro k v x hb;unfold Map.over at hb;split at hb
  ·rename_i hl;rw[Qb0,hlen];omega
  ·exact h.dom _ _ _ hb
 ·intro k az sz es v x h1 h2;rcases Qg0 k (A.length+B.length) with hl|hl
  ·rw[Map.jH hl]at h2;exact hS.mV _ _ _ _ _ _ (hget _ _ h1 hl) h2
  ·rw[Map.nA hl]at h2;exact h.mV _ _ _ _ _ _ h1 h2
 ·intro k o b bo cap h1 h2;rcases Qg0 k (A.length+B.length) with hl|hl
  ·rw[hlive _ _ hl]at h2;obtain⟨a1,a2⟩:=hS.wr k o b bo cap (hget _ _ h1 hl) h2;refine⟨fun hw => ?_,a2⟩;rcases Qg0 k A.length with hl'|hl'
   ·rw[YN _ _ hl']at h2;exact(h.wr k o b bo cap h1 h2).1 hw
   ·exact h.kF b (a1 hl')
  ·rw[nW _ _ hl]at h2;obtain⟨a1,a2⟩:=h.wr k o b bo cap h1 h2;refine⟨a1,fun hb => ?_⟩;rcases hx.iI b hb with hb|hb
   ·exact a2 hb
   ·have:=ku h h2;omega
 ·intro k cs b bo cap h1 h2;rcases Qg0 k (A.length+B.length) with hl|hl
  ·rw[Map.jH hl]at h2;obtain⟨a0,c,e,a1,a2,a3⟩:=hS.box k cs b bo cap (hget _ _ h1 hl) h2;exact⟨a0,c,e,a1,a2,fun j f x e1 e2=>(a3 j f x e1 e2).mono alL (fun _ h=>h) (fun _ _=>rfl)⟩
  ·rw[Map.nA hl]at h2;obtain⟨a0,c,e,a1,a2,a3⟩:=h.box k cs b bo cap h1 h2;exact⟨a0,c,e,by rw[hkeep b (h.blt _ _ _ _ _ h2)];exact a1,a2,fun j f x e1 e2=>OE.ab9 (a3 j f x e1 e2)⟩
 ·intro k az sz es b bo cap h1 h2;rcases Qg0 k (A.length+B.length) with hl|hl
  ·rw[Map.jH hl]at h2;exact hS.row _ _ _ _ _ _ _ (hget _ _ h1 hl) h2
  ·rw[Map.nA hl]at h2;obtain⟨a0,c,e,a1,a2⟩:=h.row _ _ _ _ _ _ _ h1 h2;have hb:=hkeep b (h.blt _ _ _ _ _ h2);exact⟨a0.mono hx.im hx.fB hb,c,e,by rw[hb];exact a1,a2⟩
 ·intro k az sz es b bo cap h1 h2;rcases Qg0 k (A.length+B.length) with hl|hl
  ·rw[Map.jH hl]at h2;exact hS.iA _ _ _ _ _ _ _ (hget _ _ h1 hl) h2
  ·rw[Map.nA hl]at h2;obtain⟨a0,a1⟩:=h.iA _ _ _ _ _ _ _ h1 h2;exact⟨a0.mono hx.im hx.fB (hx.fB b a1),hx.im b a1⟩
 ·have ai2 : ∀ (k k' : Nat) (o o' : ai) b bo cap wO cap', k < A.length + B.length -> A.length + B.length <= k' -> (A ++ B ++ C)[k]? = some o -> (A ++ B ++ C)[k']? = some o' ->
       o.live β' k = some (b, bo, cap) -> o'.live β k' = some (b, wO, cap') -> k = k' := by
   intro k k' o o' b bo cap wO cap' hl hl' h1 h2 h3 h4;rcases Qg0 k A.length with hl2|hl2
   ·rw[YN _ _ hl2]at h3;exact h.inj k k' o o' b bo cap wO cap' h1 h2 h3 h4
   ·have h5:w.heap.size<=b:=(hS.wr k o b bo cap (hget _ _ h1 hl) h3).1 hl2;have:=ku h h4;omega
  intro k k' o o' b bo cap wO cap' h1 h2 h3 h4;rcases Qg0 k (A.length+B.length) with hl|hl<;>rcases Qg0 k' (A.length+B.length) with hl'|hl'
  ·rw[hlive _ _ hl]at h3;rw[hlive _ _ hl']at h4;exact hS.inj k k' o o' b bo cap wO cap' (hget _ _ h1 hl) (hget _ _ h2 hl') h3 h4
  ·rw[hlive _ _ hl]at h3;rw[nW _ _ hl']at h4;exact ai2 k k' o o' b bo cap wO cap' hl hl' h1 h2 h3 h4
  ·rw[nW _ _ hl]at h3;rw[hlive _ _ hl']at h4;exact(ai2 k' k o' o b wO cap' bo cap hl' hl h2 h1 h4 h3).symm
  ·rw[nW _ _ hl]at h3;rw[nW _ _ hl']at h4;exact h.inj k k' o o' b bo cap wO cap' h1 h2 h3 h4
 ·intro k es b bo cap h1 h2;rcases Qg0 k (A.length+B.length) with hl|hl
  ·rw[Map.jH hl]at h2;exact hS.map _ _ _ _ _ (hget _ _ h1 hl) h2
  ·rw[Map.nA hl]at h2;obtain⟨ms,clock,a1,a2⟩:=h.map _ _ _ _ _ h1 h2;exact⟨ms,clock,by rw[hkeep b (h.blt _ _ _ _ _ h2)];exact a1,a2.mono hx.im hx.fB⟩
end merge
def tails (H:Nat->List ai):Nat->Nat->List ai
 | 0,_=>[]
 | d+1,i=>(H (i+1)).drop (H i).length++tails H d (i+1)
def full (H:Nat->List ai)(m i:Nat):List ai:=H i++tails H (m-i) i
section full
variable {H:Nat->List ai} {m:Nat}
theorem LW:full H m m=H m:=by simp[full,tails]
theorem yX {i:Nat}(hi:i<m):full H m i=H i++(H (i+1)).drop (H i).length++tails H (m-(i+1)) (i+1):=by
 unfold full;rw[show m-i=(m-(i+1))+1 by omega,tails,Qm1]
theorem jO {i:Nat}(hi:i<m){new:List ai}(h:H (i+1)=H i++new):full H m (i+1)=full H m i:=by
 rw[yX hi,h,List.drop_append_of_le_length (Qe1 _),Qv2,Qs2,full,h]
theorem LX {i p q:Nat}(hi:i<m){o:ai}(h:H (i+1)=(H i).set q o)(hp:p≠q):(full H m (i+1))[p]?=(full H m i)[p]?:=by
 rw[yX hi,h,full,h];have:((H i).set q o).drop (H i).length=[]:=Xq1 aC;rw[this,Q11];rcases Qg0 p (H i).length with hl|hl
 ·rw[Qa0 (by simpa using hl),Qa0 hl,Qb2 (Ne.symm hp)]
 ·rw[Qb1 (by simpa using hl),Qb1 hl];simp
theorem TC {i k:Nat}(hi:i<m)(hl:(H i).length<=(H (i+1)).length)(h:k<(H i).length->(H (i+1))[k]?=(H i)[k]?):(full H m (i+1))[k]?=(full H m i)[k]?:=by
 rw[yX hi];unfold full;rcases Qg0 k (H (i+1)).length with h1|h1
 ·rw[Qa0 h1,Qa0 (by rw[Qb0,Xe1];omega)];rcases Qg0 k (H i).length with h2|h2
  ·rw[h h2,Qa0 h2]
  ·rw[Qb1 h2,Qy0]
   congr 1
   omega
 ·rw[Qb1 h1,Qb1 (by rw[Qb0,Xe1];omega)]
  congr 1
  rw[Qb0,Xe1];omega
theorem LY {i k:Nat}(hk:k<(H i).length):(full H m i)[k]?=(H i)[k]?:=by
 unfold full;rw[Qa0 hk]
theorem uu (hm:∀ i,i<m->(H i).length<=(H (i+1)).length):∀ (d i:Nat),i+d=m->(full H m i).length=(H m).length
 | 0,i,h=>by
  have:i=m:=ae;subst this;rw[LW]
 | d+1,i,h=>by
  have h1:=uu hm d (i+1) ae;have h2:=hm i ae;rw[yX ae];rw[full]at h1;simp only[Qb0,Xe1]at h1 ⊢;omega
theorem YO (hm:∀ i,i<m->(H i).length<=(H (i+1)).length){i j:Nat}(hij:i<=j)(hj:j<=m):(H i).length<=(H j).length:=by
 induction j with
 | zero => have : i = 0 :=ae
           subst this;exact Qe1 _
 | succ j ih =>
  rcases Q70 hij with he|hl
  ·subst he;exact Qe1 _
  ·exact Qd1 (ih ae ae) (hm j ae)
theorem GY {r i:Nat}(Ho:r<=i)(hq:∀ j,r<=j->j<i->full H m (j+1)=full H m j):full H m i=full H m r:=by
 induction i with
 | zero => have : r = 0 :=ae
           subst this;rfl
 | succ i ih =>
  rcases Q70 Ho with he|hl
  ·subst he;rfl
  ·rw[hq i ae ae];exact ih ae (fun j h1 h2=>hq j h1 ae)
theorem EM {r i p:Nat}(Ho:r<=i)(hq:∀ j,r<=j->j<i->(full H m (j+1))[p]?=(full H m j)[p]?):(full H m i)[p]?=(full H m r)[p]?:=by
 induction i with
 | zero => have : r = 0 :=ae
           subst this;rfl
 | succ i ih =>
  rcases Q70 Ho with he|hl
  ·subst he;rfl
  ·rw[hq i ae ae];exact ih ae (fun j h1 h2=>hq j h1 ae)
theorem acu {k i:Nat}(h1:(H i).length<=k)(d:Nat)(hd:i+d=m)(h2:k<(H m).length):∃ j,i<=j/\j<m/\(H j).length<=k/\k<(H (j+1)).length:=by
 induction d generalizing i with
 | zero => have : i = m :=ae
           subst this;omega
 | succ d ih =>
  rcases Qg0 k (H (i+1)).length with hl|hl
  ·exact⟨i,Qe1 _,ae,h1,hl⟩
  ·obtain⟨j,a1,a2,a3,a4⟩:=ih hl ae;exact⟨j,ae,a2,a3,a4⟩
end full
end
section
variable {mn:Prop}
structure TD (P:Program)(E:Env)(cx:Cx)(σ:Nat->Option FuncId)(rec:Nat->List FV->List ai->bJ)(l:List Oper)(ks:List jM)(ap:List (Nat × Nat))(f:Nat->St)(ev:List FV)(n:Nat)(vars:List FV)(wd:Nat->Prop):Prop where
 gid:∀ f g,cx.gid f=some g->σ g=some f
 bod:Bodies P E σ
 rl:fe rec
 rc:kz P E σ rec
 comp:∀ (i:Nat) (o:Oper),l[i]?=some o->∃ x,ks[i]?=some x/\bg P cx ((l.take i).map (·.dst)) o=some x.k.IV/\x.guard=o.guard/\qY ((l.take i).map (·.dst)) o.guard=true/\yx cx o.dst=true
 TE:ks.length=l.length
 tr:Trace E rec ks [] f ev
 base:∀ i,i<=l.length->(f i).base.length=n
 vrs:∀ i,i<=l.length->(f i).vars=vars
 ord:Ord l ks ap
 apart:lq (f 0) ap=true
 mw:∀ i,i<=l.length->jE n (f i) wd
 ai4:∀ (j:Nat) (t:Tmp) (y:FV),cx.vars[j]?=some t->vars[j]?=some y->wW n (f 0).H.length y
def Gr (l:List Oper)(f:Nat->St)(r:Nat):List ai:=full (fun i=>(f i).H) l.length r
structure Inv (mn:Prop)(cx:Cx)(σ:Nat->Option FuncId)(l:List Oper)(ks:List jM)(f:Nat->St)(ev:List FV)(n:Nat)(vars:List FV)(Wr wd:Nat->Prop)(β0:Map)(I0:Nat->Prop)(w0:World)(ds:List Deferred)
  (r:Nat) (β:Map) (I:Nat->Prop) (listed:Array Bool) (a:Act) (w:World):Prop where
 rle:r<=l.length
 rl:r=0\/∃ x,ks[r-1]?=some x/\x.k.loud x.q=true
 wrote:∀ (j:Nat) (x:jM),ks[j]?=some x->x.k.loud x.q=true->(listed.getD j false=true↔j<r)
 qU:bq σ n β I Wr wd (Gr l f r) w
 ext:Ext mn β0 β I0 I Wr w0 w
 gap:∀ j,j<l.length->listed.getD j false=false->∀ k v,(f j).H.length<=k->k<(f (j+1)).H.length->β k v=none
 cb:∀ i,r<=i->i<=l.length->∀ (k:Nat) (cs:List FV) (x:Nat × Nat × Nat),k<(f i).H.length->(Gr l f r)[k]?=some (.box cs)->β k 0=some x->∀ c ∈ cs,wW n (f i).H.length c
 vb:∀ (j:Nat) (y:FV),listed.getD j false=true->ev[j]?=some y->wW n (f (j+1)).H.length y
 size:a.tmps.size=cx.ntmps
 loc:∀ (j:Nat) (o:Oper) (t:Tmp) (y:FV),l[j]?=some o->o.dst=some t->listed.getD j false=true->ev[j]?=some y->aJ σ β I w n y (a.eval (.tmp t))
 var:∀ (j:Nat) (t:Tmp) (y:FV),cx.vars[j]?=some t->(∀ (i:Nat) (o:Oper),l[i]?=some o->o.dst=some t->listed.getD i false=false)->vars[j]?=some y->aJ σ β I w n y (a.eval (.tmp t))
 dfr:a.defers=ds
section next
variable {P:Program} {E:Env} {cx:Cx} {σ:Nat->Option FuncId} {rec:Nat->List FV->List ai->bJ} {l:List Oper} {ks:List jM} {ap:List (Nat × Nat)} {f:Nat->St} {ev:List FV} {n:Nat} {vars:List FV} {Wr wd:Nat->Prop}
variable {β0 β β':Map} {I0 I I':Nat->Prop} {w0 w w':World} {ds:List Deferred} {r r':Nat} {listed:Array Bool} {a:Act} {i:Nat} {o:Oper} {v:FV} {x:Value}
theorem set_self {m:Nat}(hs:listed.size=m)(hi:i<m):(listed.setIfInBounds i true).getD i false=true:=by
 simp[Qt1,hs,hi]
theorem Inv.next (h:Inv mn cx σ l ks f ev n vars Wr wd β0 I0 w0 ds r β I listed a w)(hO:Ord l ks ap)(ho:l[i]?=some o)(hs:listed.size=l.length)(hd:yx cx o.dst=true)(hv:ev[i]?=some v)
  (hr:r'<=l.length) (hrl:r'=0\/∃ x,ks[r'-1]?=some x/\x.k.loud x.q=true)
  (hwr:∀ (j:Nat) (x:jM),ks[j]?=some x->x.k.loud x.q=true->((listed.setIfInBounds i true).getD j false=true↔j<r')) (hx:Ext mn β β' I I' Wr w w') (hS:bq σ n β' I' Wr wd (Gr l f r') w')
  (af6:∀ j,j<l.length->j≠i->listed.getD j false=false->∀ k v,(f j).H.length<=k->k<(f (j+1)).H.length->β' k v=none)
  (hcb:∀ i,r'<=i->i<=l.length->∀ (k:Nat) (cs:List FV) (x:Nat × Nat × Nat),k<(f i).H.length->(Gr l f r')[k]?=some (.box cs)->β' k 0=some x->∀ c ∈ cs,wW n (f i).H.length c)
  (hb:wW n (f (i+1)).H.length v) (hR:aJ σ β' I' w' n v x) :
  Inv mn cx σ l ks f ev n vars Wr wd β0 I0 w0 ds r' β' I' (listed.setIfInBounds i true) (a.put o.dst x) w':=by
 have hil:i<l.length:=(aU ho)
 have hself:=set_self (listed:=listed) (i:=i) hs hil;have hne:∀ j,j≠i->(listed.setIfInBounds i true).getD j false=listed.getD j false:=fun j hj=>getD_set_ne false (Ne.symm hj)
 have hdp:∀ u,o.dst=some u->u<a.tmps.size:=by
  intro u hu;rw[h.size];rw[hu]at hd;simpa[yx] using hd
 refine⟨hr,hrl,hwr,hS,h.ext.trans hx,?_,hcb,?_,by rw[Ee];exact h.size,?_,?_,by rw[put_defers];exact h.dfr⟩
 ·intro j hj hun
  by_cases hji:j=i
  ·subst hji;rw[hself]at hun;cases hun
  ·rw[hne j hji]at hun;exact af6 j hj hji hun
 ·intro j y hl hy
  by_cases hji:j=i
  ·subst hji;rw[hv]at hy;cases hy;exact hb
  ·rw[hne j hji]at hl;exact h.vb j y hl hy
 ·intro j o' t y ho' ht hl hy;rw[eval_put _ _ _ _ hdp]
  by_cases hji:j=i
  ·subst hji;rw[ho]at ho';cases ho';rw[if_pos ht];rw[hv]at hy;cases hy;exact hR
  ·have:o.dst≠some t:=fun e=>(hO.dst i j o o' t ho ho' (Ne.symm hji) e).1 ht
   rw[if_neg this];rw[hne j hji]at hl;exact hx.ab9 (h.loc j o' t y ho' ht hl hy)
 ·intro j t y hj hno hy;have h1:o.dst≠some t:=fun e=>by
   have:=hno i o ho e;rw[hself]at this;cases this
  rw[eval_put _ _ _ _ hdp,if_neg h1];refine hx.ab9 (h.var j t y hj (fun i' o' ho' ht => ?_) hy);have:=hno i' o' ho' ht
  by_cases hji:i'=i
  ·subst hji;rw[hself]at this;cases this
  ·rw[hne i' hji]at this;exact this
theorem Inv.same (h:Inv mn cx σ l ks f ev n vars Wr wd β0 I0 w0 ds r β I listed a w)(hO:Ord l ks ap)(ho:l[i]?=some o)(hs:listed.size=l.length)(hd:yx cx o.dst=true)(hv:ev[i]?=some v)
  (hq:∀ x,ks[i]?=some x->x.k.loud x.q=false) {β1 β2:Map} (hx:Ext mn β1 β2 I I' (fun b=>w.heap.size<=b) w w') (hi:∀ b,I' b->b<w'.heap.size)
  (hb:wW n (f (i+1)).H.length v) (hR:aJ σ β I' w' n v x) :
  Inv mn cx σ l ks f ev n vars Wr wd β0 I0 w0 ds r β I' (listed.setIfInBounds i true) (a.put o.dst x) w':=by
 refine h.next hO ho hs hd hv h.rle h.rl (fun j y hj hl => ?_) (hx.after h.qU.kF β) (h.qU.after hx hi) (fun j hj _ hun=>h.gap j hj hun) h.cb hb hR
 have:j≠i:=fun e=>by subst e;rw[hq y hj]at hl;cases hl
 rw[getD_set_ne false (Ne.symm this)];exact h.wrote j y hj hl
end next
section reg
variable {P:Program} {E:Env} {cx:Cx} {σ:Nat->Option FuncId} {rec:Nat->List FV->List ai->bJ} {l:List Oper} {ks:List jM} {ap:List (Nat × Nat)} {f:Nat->St} {ev:List FV} {n:Nat} {vars:List FV} {wd:Nat->Prop}
theorem YP {q:Bool}{k:K}(h:k.loud q=true):k.mem=true:=by cases k<;>simp_all[K.loud,K.mem]
theorem uZ {k k':K}{p:Nat × Nat}(h:LF k k'=some p):∃ m b x g m' a,k=.store m (.var b) x/\k'=.load g m' (.var a)/\p=(a,b):=by
 unfold LF at h;split at h
 ·cases h;exact⟨_,_,_,_,_,_,rfl,rfl,rfl⟩
 ·cases h
theorem Ud.symm {i j:Nat}(h:Ud l i j):Ud l j i:=⟨h.2,h.1⟩
variable (R:TD P E cx σ rec l ks ap f ev n vars wd)
include R
theorem TD.mono (i:Nat)(hi:i<l.length):(f i).H.length<=(f (i+1)).H.length:=by
 have hk:i<ks.length:=by rw[R.TE];exact hi
 obtain⟨v,_,h⟩:=R.tr.step i _ (Qa1 hk);rcases h with ⟨_,_,h⟩|⟨_,h⟩
 ·rw[h];exact Qe1 _
 ·exact YK R.rl h
theorem TD.le {i j:Nat}(hij:i<=j)(hj:j<=l.length):(f i).H.length<=(f j).H.length:=YO (H:=fun i=>(f i).H) R.mono hij hj
theorem TD.makes {j:Nat}{y:jM}(hy:ks[j]?=some y)(h:(f j).H.length<(f (j+1)).H.length):y.k.mem=true/\∀ g m x,y.k≠.load g m x/\y.k≠.jS g m x:=by
 obtain⟨v,_,h1⟩:=R.tr.step j y hy;rcases h1 with ⟨_,_,h1⟩|⟨_,h1⟩
 ·rw[h1]at h;omega
 ·constructor
  ·cases hm:y.k.mem with
   | true=>rfl
   | false=>rw[(runK_pure hm h1).1]at h;omega
  ·intro g m x;constructor
   ·intro e;rw[e]at h1;rw[(Ae h1).1]at h;omega
   ·intro e;rw[e]at h1;rw[(Ae (nT h1).1).1]at h;omega
theorem TD.quiet {j:Nat}{y:jM}(hy:ks[j]?=some y)(hq:y.k.loud y.q=false):∃ new,(f (j+1)).H=(f j).H++new:=by
 obtain⟨v,_,h1⟩:=R.tr.step j y hy;rcases h1 with ⟨_,_,h1⟩|⟨_,h1⟩
 ·exact⟨[],by rw[h1];simp⟩
 ·obtain⟨h2,new,h3⟩:=OV hq h1;exact⟨new,by simp[St.H,h2,h3]⟩
theorem TD.uu {r:Nat}(hr:r<=l.length):(Gr l f r).length=(f l.length).H.length :=
 Fi.uu (H:=fun i=>(f i).H) R.mono (l.length-r) r ae
theorem TD.ai5 {i:Nat}(hi:i<=l.length):n<=(f i).H.length:=by
 have:=R.base i hi;simp only[St.H,Qb0];omega
theorem TD.own {Wr:Nat->Prop}{β0 β:Map}{I0 I:Nat->Prop}{w0 w:World}{ds:List Deferred}{r:Nat}{listed:Array Bool}{a:Act}{i:Nat}(hi:i<l.length)(h:Inv mn cx σ l ks f ev n vars Wr wd β0 I0 w0 ds r β I listed a w)(hun:listed.getD i false=false)
  (hset:∀ (j:Nat) (y:jM),ks[j]?=some y->y.k.loud y.q=true->j≠i->(j<i->listed.getD j false=true)/\(i<j->listed.getD j false=false)):r<=i/\Gr l f i=Gr l f r:=by
 have Ho:r<=i:=by
  rcases h.rl with h0|⟨x,h1,h2⟩
  ·omega
  ·rcases Qg0 i r with hlt|hge
   ·have hl:=(h.wrote _ x h1 h2).2 ae
    by_cases he:r-1=i
    ·rw[he,hun]at hl;cases hl
    ·rw[(hset _ x h1 h2 he).2 ae]at hl;cases hl
   ·exact hge
 refine⟨Ho,GY (H:=fun i=>(f i).H) Ho (fun j h1 h2 => ?_)⟩;have hk:j<ks.length:=by rw[R.TE];omega
 cases hq:ks[j].k.loud ks[j].q with
 | false =>
  obtain⟨new,hn⟩:=R.quiet (Qa1 hk) hq;exact jO (H:=fun i=>(f i).H) ae hn
 | true =>
  have hl:=(hset j _ (Qa1 hk) hq ae).1 h2;have:=(h.wrote j _ (Qa1 hk) hq).1 hl;omega
end reg
end
section
theorem yY {aN:List (Option Tmp)}{t:Tmp}(h:fQ aN t=none):some t ∉ aN:=by
 unfold fQ at h;split at h
 ·cases h
 ·rename_i hi;rw[List.idxOf?,Xi1]at hi;intro hm;have:=hi (some t) (by simpa using hm);simp at this
theorem I8 {σ:Nat->Option FuncId}{β:Map}{I:Nat->Prop}{w:World}{n:Nat}{env:List FV}{aN:List (Option Tmp)}{a:Act}{ops:Array Oper}{o:Oper}
  (hloc:∀ g b t y,o.guard=some (g,b)->aN[g]?=some (some t)->env[g]?=some y->aJ σ β I w n y (a.eval (.tmp t)))
  (hpre:∀ (j:Nat) (d:Option Tmp),aN[j]?=some d->(ops[j]?).bind (·.dst)=d) (hg:qY aN o.guard=true) {b:Bool} (hb:mD env o.guard=some b) :
  Region.wanted o (yielded ops a.tmps)=b:=by
 unfold Region.wanted;unfold mD at hb;cases hgd:o.guard with
 | none=>rw[hgd]at hb;simpa using hb
 | some p =>
  obtain⟨j,want⟩:=p;rw[hgd]at hb hg;simp only[qY]at hg;split at hg
  ·rename_i t ht;have hd:=hpre j _ ht;simp only at hb ⊢;have hy:yielded ops a.tmps j=match a.tmps[t]? with|some (.bool b)=>some b|_=>none:=by
    unfold yielded;rw[hd];rfl
   rw[hy];cases hev:env[j]? with
   | none=>rw[hev]at hb;cases hb
   | some y =>
    have hr:=hloc j want t y hgd ht hev;rw[hev]at hb;split at hb
    ·rename_i c he;cases he;cases hb;cases hr with
     | d hr =>
      generalize hz:a.eval (.tmp t)=z at hr;cases hr;have:a.tmps[t]?=some (.bool c):=by
       simp only[Act.eval,Qt1]at hz;cases hq:a.tmps[t]? with
       | none=>rw[hq]at hz;simp[undef]at hz
       | some q=>rw[hq]at hz;simp at hz;rw[hz]
      rw[this];cases c<;>cases want<;>rfl
    ·rename_i he;cases he;cases hb;cases hr with
     | d hr =>
      generalize hz:a.eval (.tmp t)=z at hr;cases hr with
      | @t _ vs hl' h2 =>
       have hvs:vs=#[]:=by simpa using hl'
       subst hvs;simp only[Act.eval,Qt1]at hz;cases hq:a.tmps[t]? with
       | none=>simp
       | some q=>rw[hq]at hz;simp at hz;rw[hz];simp
    ·cases hb
  ·cases hg
theorem apart_spec {st:St}:∀ {ap:List (Nat × Nat)},lq st ap=true->∀ {i j:Nat},(i,j) ∈ ap->∃ p o p' o',st.vars[i]?=some (.r p o)/\st.vars[j]?=some (.r p' o')/\p.abs st.base.length≠p'.abs st.base.length
 | [],_,i,j,h=>by simp at h
 | (i',j')::ap,h,i,j,hm=>by
  simp only[lq,Qc1]at h;rcases Qj0.1 hm with he|hm
  ·cases he;have h1:=h.1;split at h1
   ·rename_i p o p' o' e1 e2;exact⟨p,o,p',o',e1,e2,by simpa using h1⟩
   ·cases h1
  ·exact apart_spec h.2 hm
theorem TG {E:Env}{rec:Nat->List FV->List ai->bJ}{st st':St}{env:List FV}{agg:Bool}{m:Nat}{x:Arg}{v:FV}{p:Ref}{off:Nat}(hx:dH E st env x=some (.r p off))(h:runK E rec true st env (.load agg m x)=some (v,st')) :
  ∃ y,v=.d y:=by
 simp only[runK,hx]at h;split at h
 ·split at h
  ·split at h
   ·cases h
   ·rename_i v' hv hp;cases h;cases v<;>simp[jI]at hp;exact⟨_,rfl⟩
  ·cases h
 ·cases h
theorem af7 {n:Nat}{st:St}{v:FV}(hn:st.base.length=n)(h:Dz st v=true):wW n st.H.length v:=by
 unfold Dz at h;split at h
 ·exact .d _
 ·exact .r (by rw[<-hn,St.H,Qb0];simpa using h)
 ·exact .ls (by rw[<-hn,St.H,Qb0];simpa using h)
 ·exact .m (by rw[<-hn,St.H,Qb0];simpa using h)
 ·cases h
theorem Bc {E:Env}{st:St}{env:List FV}{b:Arg}:∀ {ps:List Arg},gZ E st env ps=true->b ∈ ps->∃ pl po,dH E st env b=some (.r (.loc pl) po)
 | [],_,hb=>by cases hb
 | a::r,h,hb=>by
  simp only[gZ,Qc1]at h;rcases Qj0.1 hb with rfl|hb
  ·have h1:=h.1;split at h1
   ·exact⟨_,_,by assumption⟩
   ·cases h1
  ·exact Bc h.2 hb
theorem LZ {a b:Arg}(h:yN a b=true):a=b:=by
 unfold yN at h;split at h
 ·rw[beq_iff_eq.1 h]
 ·rw[beq_iff_eq.1 h]
 ·cases h
theorem EN {E:Env}{st st':St}{ev:List FV}{i j:Nat}{a:Arg}{y:FV}{vars:List FV}(h1:st'.vars=vars)(h2:st.vars=vars)(hij:i<=j)(h:dH E st (ev.take i) a=some y):dH E st' (ev.take j) a=some y:=by
 cases a with
 | var k=>simp only[dH,h1,h2]at h ⊢;exact h
 | loc k =>
  simp only[dH,Qp2]at h ⊢;split at h
  ·rw[if_pos ae];exact h
  ·cases h
 | c x=>exact h
 | g k=>exact h
theorem OW {E:Env}{rec:Nat->List FV->List ai->bJ}{q:Bool}{st st':St}{env:List FV}{agg:Bool}{m:Nat}{x:Arg}{v yy:FV}{p:Ref}(h:runK E rec q st env (.load agg m x)=some (v,st'))(hy:dH E st env x=some yy)
  (hor:(∃ off,yy=.r p off)\/∃ az sz i off,yy=.e p az sz i off):∃ o,st.heap p=some o:=by
 simp only[runK,hy]at h;rcases hor with ⟨_,rfl⟩|⟨_,_,_,_,rfl⟩
 ·simp only at h;cases hh:st.heap p with
  | none=>rw[hh]at h;cases h
  | some o=>exact⟨o,rfl⟩
 ·simp only at h;cases hh:st.heap p with
  | none=>rw[hh]at h;cases h
  | some o=>exact⟨o,rfl⟩
section step
variable {P:Program} {E:Env} {cx:Cx} {σ:Nat->Option FuncId} {rec:Nat->List FV->List ai->bJ} {l:List Oper} {ks:List jM} {ap:List (Nat × Nat)} {f:Nat->St} {ev:List FV} {n:Nat} {vars:List FV} {Wr wd:Nat->Prop}
variable {β0 β:Map} {I0 I:Nat->Prop} {w0 w:World} {ds:List Deferred} {r:Nat} {listed:Array Bool} {a:Act} {i:Nat} {o:Oper} {ops:Array Oper} {Q:Exit->Act->World->Prop}
theorem TD.operand (R:TD P E cx σ rec l ks ap f ev n vars wd)(h:Inv E.mn cx σ l ks f ev n vars Wr wd β0 I0 w0 ds r β I listed a w)(hG:dS E σ I w)(ho:l[i]?=some o)(hun:listed.getD i false=false)
  (hset:∀ j,Ud l i j->(j<i->listed.getD j false=true)/\(i<j->listed.getD j false=false)) {ty:TypeId} {x:Operand} {y:Arg} {v:FV} (hx:x ∈ o.op.operands.toList)
  (hc:jh P cx ((l.take i).map (·.dst)) ty x=some y) (hv:dH E (f i) (ev.take i) y=some v):aJ σ β I w n v (a.eval x)/\wW n (f i).H.length v:=by
 have hil:i<l.length:=(aU ho)
 unfold jh at hc;cases x with
 | tmp t =>
  have htm:t ∈ tmpsOf o:=by
   unfold tmpsOf;rw[List.mem_filterMap];exact⟨.tmp t,hx,rfl⟩
  simp only at hc;split at hc
  ·rename_i j hj;cases hc;have h1:=rD hj;simp only[Qc0,Qf2,Qp2]at h1;obtain⟨oj,h2,h3⟩:=h1;split at h2
   ·rename_i hji;have hne:j≠i:=ae;have hcm:=((R.ord.dst j i oj o t h2 ho hne h3).2 htm).symm;have hlj:=(hset j hcm).1 hji;simp only[dH,Qp2,if_pos hji]at hv;exact⟨h.loc j oj t v h2 h3 hlj hv,(h.vb j v hlj hv).mono (R.le ae ae)⟩
   ·cases h2
  ·rename_i hno;split at hc<;>simp at hc;subst hc;rename_i j hj;have hjt:=oJ hj;simp only[dH,R.vrs i ae]at hv;refine⟨h.var j t v hjt (fun i' o' ho' ht => ?_) hv,(R.ai4 j t v hjt hv).mono (R.le (Qz2 _) ae)⟩;rcases Nat.lt_trichotomy i' i with hl|hl|hl
   ·refine absurd ?_ (yY hno);rw[Qg1];refine⟨o',?_,ht⟩;rw[List.mem_take_iff_getElem];have hi':=Qq1.1 ho';exact⟨i',ae,hi'.2⟩
   ·subst hl;exact hun
   ·have hcm:=((R.ord.dst i' i o' o t ho' ho ae ht).2 htm).symm;exact(hset i' hcm).2 hl
 | const z =>
  simp only at hc;split at hc<;>simp at hc;subst hc;rename_i hz;simp only[dH,Qe2]at hv;subst hv;exact⟨.d (uo R.gid hz),.d _⟩
 | func g =>
  simp only at hc;split at hc<;>simp at hc;subst hc;rename_i hz;simp only[dH,Qe2]at hv;subst hv;exact⟨.d (.fn (R.gid _ _ hz)),.d _⟩
 | global k =>
  simp only at hc;cases hc;simp only[dH]at hv;split at hv<;>simp at hv;subst hv;rename_i z hz;obtain⟨h1,h2,h3,_⟩:=hG _ _ hz;exact⟨.rc h1 h2 h3,.rc _⟩
theorem kC (hi:ops[i]?=some o)(hw:Region.wanted o (yielded ops a.tmps)=true){Φ:Value->World->Prop}(hy:Yields P o a.eval w Φ){K:Act->World->Prop}(hK:∀ x w',Φ x w'->K (a.put o.dst x) w'):wpOp P ops Q i K a w:=by
 unfold wpOp;simp only[hi,hw,if_true];exact .inl (hy.wp hK)
theorem yZ (hi:ops[i]?=some o)(hw:Region.wanted o (yielded ops a.tmps)=false){K:Act->World->Prop}(hK:K (a.put o.dst undef) w):wpOp P ops Q i K a w:=by
 unfold wpOp;simp only[hi,hw];exact hK
theorem TD.step (R:TD P E cx σ rec l ks ap f ev n vars wd)(hl:ops.toList=l)(hG0:dS E σ I0 w0)(hs:listed.size=ops.size)
  (hcl:∀ (j:Nat) (o:Oper) e,ops[j]?=some o->listed.getD j false=true->e ∈ o.after->Region.binds .any e=true->listed.getD e.on false=true)
  (h:Inv E.mn cx σ l ks f ev n vars Wr wd β0 I0 w0 ds r β I listed a w) (hi:i ∈ Region.ready .any ops listed) (Kn:Act->World->Prop)
  (hK:∀ a' w',(∃ r' β' I',Inv E.mn cx σ l ks f ev n vars Wr wd β0 I0 w0 ds r' β' I' (listed.setIfInBounds i true) a' w')->Kn a' w'):wpOp P ops Q i Kn a w:=by
 obtain⟨af8,o,hoi,hall⟩:=mem_ready.1 hi;have hat:∀ j,l[j]?=ops[j]?:=fun j=>by rw[<-hl,Qv1]
 have hsl:listed.size=l.length:=by rw[hs,<-hl,Xj2]
 have ho:l[i]?=some o:=by rw[hat];exact hoi
 have hil:i<l.length:=(aU ho)
 have hun:listed.getD i false=false:=by
  simp only[Qt1]at af8 ⊢;rw[Qh2 ae]at af8 ⊢;simpa using af8
 have hclosed:∀ p j,Zp l p j->listed.getD p false=true->listed.getD j false=true:=by
  intro p j hb
  induction hb with
  | edge h1 h2 h3=>intro hp;exact hcl _ _ _ (by rw[<-hat];exact h1) hp h2 h3
  | step h1 h2 h3 _ ih=>intro hp;exact ih (hcl _ _ _ (by rw[<-hat];exact h1) hp h2 h3)
 have hbef:∀ j,Zp l i j->listed.getD j false=true:=by
  intro j hb;cases hb with
  | edge h1 h2 h3=>rw[ho]at h1;cases h1;exact hall _ h2 h3
  | step h1 h2 h3 h4=>rw[ho]at h1;cases h1;exact hclosed _ _ h4 (hall _ h2 h3)
 have hset:∀ j,Ud l i j->(j<i->listed.getD j false=true)/\(i<j->listed.getD j false=false):=by
  intro j hc;refine⟨fun hj=>hbef j (hc.2 hj),fun hj => ?_⟩;cases hq:listed.getD j false with
  | false=>rfl
  | true=>rw[hclosed j i (hc.1 hj) hq]at hun;cases hun
 obtain⟨x,hx,hcomp,hgd,alM,TH⟩:=R.comp i o ho;obtain⟨v,hv,htr⟩:=R.tr.step i x hx;have hG:dS E σ I w:=hG0.mono h.ext.im h.ext.fB;have hop:∀ {ty:TypeId} {z:Operand} {y:Arg} {v:FV},z ∈ o.op.operands.toList->jh P cx ((l.take i).map (·.dst)) ty z=some y->dH E (f i) (ev.take i) y=some v->aJ σ β I w n v (a.eval z)/\wW n (f i).H.length v :=
  fun hz hc hv=>R.operand h hG ho hun hset hz hc hv
 have hbase:=R.base i ae;have hvars:=R.vrs i ae
 -- the guard
 have hguard:∀ b,mD (ev.take i) x.guard=some b->Region.wanted o (yielded ops a.tmps)=b:=by
  intro b hb;rw[hgd]at hb;refine I8 (σ:=σ) (β:=β) (I:=I) (w:=w) (n:=n) (env:=ev.take i) (aN:=(l.take i).map (·.dst)) (fun g b t y h1 h2 h3 => ?_) (fun j d hj => ?_) alM hb
  ·simp only[Qc0,Qf2,Qp2]at h2;obtain⟨og,h4,h5⟩:=h2;split at h4
   ·rename_i hgi;simp only[Qp2,if_pos hgi]at h3;exact h.loc g og t y h4 h5 (hbef g (R.ord.grd i o g b ho h1)) h3
   ·cases h4
  ·simp only[Qc0,Qf2,Qp2]at hj;obtain⟨oj,h4,h5⟩:=hj;split at h4
   ·rw[<-hat,h4];exact h5
   ·cases h4
 simp only[Qs2]at htr;cases hlo:x.k.loud x.q with
 | true =>
  have hcmp:∀ (j:Nat) (y:jM),ks[j]?=some y->y.k.mem=true->j≠i->Ud l i j\/∃ g m z,y.k=.load g m z\/y.k=.jS g m z:=by
   intro j y hy hm hne;rcases R.ord.mem i j x y hx hy (Ne.symm hne) hlo hm with h1|⟨_,p,h2,_⟩|⟨_,g,m',a',_,e2,_,_⟩
   ·exact .inl h1
   ·obtain⟨_,_,_,g,m',a',_,e2,_⟩:=uZ h2;exact .inr ⟨_,_,_,.inl e2⟩
   ·exact .inr ⟨_,_,_,.inr e2⟩
  have adm:∀ (j:Nat) (y:jM),ks[j]?=some y->y.k.loud y.q=true->j≠i->(j<i->listed.getD j false=true)/\(i<j->listed.getD j false=false):=by
   intro j y hy hl hne;rcases hcmp j y hy (YP hl) hne with h1|⟨g,m,z,e|e⟩
   ·exact hset j h1
   ·rw[e]at hl;simp[Fi.K.loud]at hl
   ·rw[e]at hl;simp[Fi.K.loud]at hl
  obtain⟨Ho,hGi⟩:=R.own hil h hun adm;have hmk:∀ j,j<l.length->j≠i->(f j).H.length<(f (j+1)).H.length->(j<i->listed.getD j false=true)/\(i<j->listed.getD j false=false):=by
   intro j hj hne hlt;have hk:j<ks.length:=by rw[R.TE];exact hj
   obtain⟨hm,hno⟩:=R.makes (Qa1 hk) hlt;rcases hcmp j _ (Qa1 hk) hm hne with h1|⟨g,m,z,e|e⟩
   ·exact hset j h1
   ·exact absurd e (hno g m z).1
   ·exact absurd e (hno g m z).2
  have hwr:∀ (j:Nat) (y:jM),ks[j]?=some y->y.k.loud y.q=true->((listed.setIfInBounds i true).getD j false=true↔j<i+1):=by
   intro j y hy hl
   by_cases hji:j=i
   ·subst hji;simp[set_self (listed:=listed) hsl hil]
   ·rw[getD_set_ne false (Ne.symm hji)];have:=adm j y hy hl hji;constructor
    ·intro ht;rcases Qg0 i j with hlt|hge
     ·rw[this.2 hlt]at ht;cases ht
     ·omega
    ·intro hlt;exact this.1 ae
  have hrl:i+1=0\/∃ x,ks[i+1-1]?=some x/\x.k.loud x.q=true:=.inr ⟨x,by simpa using hx,hlo⟩;rcases htr with ⟨hg,hv0,hf⟩|⟨hg,hrun⟩
  ·-- not carried out
   refine yZ hoi (hguard _ hg) (hK _ w ⟨i+1,β,I,?_⟩);subst hv0;have hGs:Gr l f (i+1)=Gr l f r:=by
    rw[<-hGi];exact jO (H:=fun i=>(f i).H) hil (new:=[]) (by simp[hf])
   refine h.next R.ord ho hsl TH hv ae hrl hwr (Ext.refl _ _ _ _) (by rw[hGs];exact h.qU) (fun j hj _ hun=>h.gap j hj hun) (fun i' h1 h2 k cs z h3 h4 h5 => ?_) (.d _) mi
   rw[hGs]at h4;exact h.cb i' ae h2 k cs z h3 h4 h5
  ·-- it writes
   have af9:∀ k u,(f i).H.length<=k->β k u=none:=by
    intro k u hk;cases hβ:β k u with
    | none=>rfl
    | some z =>
     have hd:=h.qU.dom k u z hβ;rw[R.uu h.rle]at hd;obtain⟨j,h1,h2,h3,h4⟩:=acu (H:=fun i=>(f i).H) hk (l.length-i) ae hd;cases hlj:listed.getD j false with
     | false=>rw[h.gap j h2 hlj k u h3 h4]at hβ;cases hβ
     | true =>
      have hne:j≠i:=fun e=>by subst e;rw[hun]at hlj;cases hlj
      rw[(hmk j h2 hne ae).2 ae]at hlj;cases hlj
   have L6:bq σ (f i).base.length β I Wr wd ((f i).base++(f i).loc) w:=by
    rw[hbase];have:=h.qU;rw[<-hGi]at this;exact bq.pre (H:=(f i).H) this af9
   have hA:bZ P E cx σ β I w (f i) (ev.take i) ((l.take i).map (·.dst)) a.eval o.op.operands.toList:=by
    intro ty z y v' hz hc hv';rw[hbase];exact(hop hz hc hv').1
   have alN:jE (f i).base.length (f (i+1)) wd:=by rw[hbase];exact R.mw (i+1) ae
   refine kC hoi (hguard _ hg) (Ac R.gid R.bod R.rl R.rc hG hA hcomp hrun (fun _=>alN) L6) (fun z w' hp=>hK _ w' ⟨i+1,?_⟩);obtain⟨β',I',hxt,hS',hR',_⟩:=hp;rw[hbase]at hS' hR';have hdom:∀ k u z,β' k u=some z->k<(f (i+1)).H.length:=hS'.dom;refine⟨β',I',h.next R.ord ho hsl TH hv ae hrl hwr hxt (bq.app (H:=(f (i+1)).H) hS' _) (fun j hj hne YQ k u h1 h2 => ?_) (fun i' h1 h2 k cs y h3 h4 h5 => ?_) (hR'.bnd hdom) hR'⟩
   ·rcases Qg0 j i with hlt|hge
    ·rw[(hmk j hj hne ae).1 hlt]at YQ;cases YQ
    ·have:(f (i+1)).H.length<=(f j).H.length:=R.le ae ae;cases hβ:β' k u with
     | none=>rfl
     | some y=>have:=hdom k u y hβ;omega
   ·have hk:=hdom k 0 y h5;have h6:(f (i+1)).H[k]?=some (.box cs):=by
     rw[<-h4];exact(LY (H:=fun i=>(f i).H) hk).symm
    obtain⟨b,bo,cap⟩:=y;obtain⟨_,c,e,_,g2,g3⟩:=hS'.box k cs b bo cap h6 h5;intro cc hcc;obtain⟨j,z',e1,e2⟩:=wX g2 hcc;exact((g3 j cc z' e1 e2).bnd hdom).mono (R.le ae h2)
 | false =>
  have hqq:∀ y,ks[i]?=some y->y.k.loud y.q=false:=fun y hy=>by rw[hx]at hy;cases hy;exact hlo
  rcases htr with ⟨hg,hv0,hf⟩|⟨hg,hrun⟩
  ·subst hv0;exact yZ hoi (hguard _ hg) (hK _ w ⟨r,β,I,h.same R.ord ho hsl TH hv hqq (Ext.refl β I _ w) h.qU.mr (.d _) mi⟩)
  ·have adn:(Gr l f r).length=(f l.length).H.length:=R.uu h.rle;cases hm:x.k.mem with
   | false =>
    obtain⟨hf,hany⟩:=runK_pure hm hrun;have YR:=h.qU.blank (m:=(f i).H.length);have hlen:(((Gr l f r).take (f i).H.length).map ai.blank).length=(f i).H.length:=by
     rw[Ql1,Qk0,adn];have:=R.le (i:=i) (j:=l.length) ae (Qe1 _);omega
    generalize hA':((Gr l f r).take (f i).H.length).map ai.blank=A' at YR hlen
    let st2:St:={vars:=(f i).vars,base:=A'.take n,loc:=A'.drop n,aR:=false}
    have hb2:st2.base.length=n:=by
     have:=R.ai5 (i:=i) ae;simp only[st2,Qk0];omega
    have hH2:st2.base++st2.loc=A':=Xh1 n A';have hS2:bq σ st2.base.length (β.upto (f i).H.length) I (fun b=>w.heap.size<=b) (fun _=>False) (st2.base++st2.loc) w:=by rw[hb2,hH2];exact YR
    have hA2:bZ P E cx σ (β.upto (f i).H.length) I w st2 (ev.take i) ((l.take i).map (·.dst)) a.eval o.op.operands.toList:=by
     intro ty z y v' hz hc hv';rw[hb2];obtain⟨g1,g2⟩:=hop hz hc hv';exact g1.upto g2
    refine kC hoi (hguard _ hg) (Ac R.gid R.bod R.rl R.rc hG hA2 hcomp (hany st2 rfl) (fun hl=>by rw[hlo]at hl;cases hl) hS2) (fun z w' hp=>hK _ w' ⟨r,β,?_⟩);obtain⟨β',I',hxt,hS',hR',hk'⟩:=hp;rw[hH2,hlen]at hk';rw[hb2,hH2]at hS';rw[hb2]at hR';have hdom:∀ k u z,β' k u=some z->k<(f i).H.length:=fun k u z hz=>by have:=hS'.dom k u z hz;rw[hlen]at this;exact this
    refine⟨I',h.same R.ord ho hsl TH hv hqq hxt hS'.mr ((hR'.bnd hdom).mono (R.mono i hil)) (hR'.mono (fun k u z hz => ?_) (fun _ h=>h) (fun _ _=>rfl))⟩;have h1:=hdom k u z hz;rw[hk' k u h1 (fun h=>h),Map.rE h1]at hz;exact hz
   | true =>
    by_cases hcmp:∀ (j:Nat) (y:jM),ks[j]?=some y->y.k.loud y.q=true->j≠i->Ud l i j
    ·-- it has been compared with all that is loud
     obtain⟨Ho,hGi⟩:=R.own hil h hun (fun j y hy hl hne=>hset j (hcmp j y hy hl hne));obtain⟨new,hnew⟩:=R.quiet hx hlo;have hfl:Gr l f r=(f i).H++new++tails (fun i=>(f i).H) (l.length-(i+1)) (i+1):=by
      rw[<-hGi];have:=yX (H:=fun i=>(f i).H) hil;simp only[hnew,List.drop_append_of_le_length (Qe1 _),Qv2,Qs2]at this;exact this
     have hlen1:(f (i+1)).H.length=(f i).H.length+new.length:=by rw[hnew,Qb0]
     have L6:=h.qU;rw[hfl]at L6;have hS0:bq σ (f i).base.length (β.upto (f i).H.length) I (fun b=>w.heap.size<=b) (fun k=>(f i).H.length<=k) ((f i).base++(f i).loc) w:=by
      rw[hbase];refine bq.first (A:=(f i).H) (T:=new++tails (fun i=>(f i).H) (l.length-(i+1)) (i+1)) (by rw[<-Qm1];exact L6) (fun k cs b bo cap h1 h2 j c y h3 h4=>h4.upto ?_)
      have hk:=(aU h1)
      refine h.cb i Ho ae k cs _ hk ?_ h2 c (Qa2 h3);rw[hfl,Qm1];exact bP h1
     have hA:bZ P E cx σ (β.upto (f i).H.length) I w (f i) (ev.take i) ((l.take i).map (·.dst)) a.eval o.op.operands.toList:=by
      intro ty z y v' hz hc hv';rw[hbase];obtain⟨g1,g2⟩:=hop hz hc hv';exact g1.upto g2
     refine kC hoi (hguard _ hg) (Ac R.gid R.bod R.rl R.rc hG hA hcomp hrun (fun hl=>by rw[hlo]at hl;cases hl) hS0) (fun z w' hp => ?_);obtain⟨β',I',hxt,hS',hR',hk'⟩:=hp;rw[hbase]at hS' hR';have hdom:∀ k u z,β' k u=some z->k<(f (i+1)).H.length:=hS'.dom;have hkb:∀ k u,k<(f i).H.length->β' k u=β k u:=fun k u hk=>by
      rw[hk' k u hk (by simp only[St.H]at hk ⊢;omega),Map.rE hk]
     have hS1:bq σ n β' I' (fun b=>w.heap.size<=b) (fun k=>(f i).H.length<=k) ((f i).H++new) w':=by rw[<-hnew];exact hS'
     obtain⟨hx2,hS2⟩:=bq.af5 L6 (fun k u h1 h2=>h.gap i hil hun k u h1 ae) hxt hS1 hkb;rw[<-hlen1]at hx2 hS2;refine hK _ w' ⟨r,_,I',h.next R.ord ho hsl TH hv h.rle h.rl (fun j y hy hl => ?_) hx2 (by rw[hfl];exact hS2) (fun j hj hne YQ k u h1 h2 => ?_) (fun i' h1 h2 k cs y h3 h4 h5 => ?_) (hR'.bnd hdom) (hR'.mono (fun k u z hz => ?_) (fun _ h=>h) (fun _ _=>rfl))⟩
     ·have:j≠i:=fun e=>by subst e;rw[hqq y hy]at hl;cases hl
      rw[getD_set_ne false (Ne.symm this)];exact h.wrote j y hy hl
     ·rcases Qg0 j i with hlt|hge
      ·have h3:(f (j+1)).H.length<=(f i).H.length:=R.le ae ae;rw[Map.jH ae,hkb k u ae];exact h.gap j hj YQ k u h1 h2
      ·have h3:(f (i+1)).H.length<=(f j).H.length:=R.le ae ae;rw[Map.nA ae];exact h.gap j hj YQ k u h1 h2
     ·rcases Qg0 k (f i).H.length with hk1|hk1
      ·rw[Map.jH ae,hkb k 0 hk1]at h5;exact h.cb i' h1 h2 k cs y h3 h4 h5
      ·rcases Qg0 k (f (i+1)).H.length with hk2|hk2
       ·rw[Map.jH hk2]at h5;have hii:i+1<=i':=by
         rcases Qg0 i i' with hlt|hge
         ·exact hlt
         ·have:=R.le hge ae;omega
        have h6:((f i).H++new)[k]?=some (.box cs):=by
         rw[hfl,Qa0 (by rw[Qb0];omega)]at h4;exact h4
        obtain⟨b,bo,cap⟩:=y;obtain⟨_,c,e,_,g2,g3⟩:=hS1.box k cs b bo cap h6 h5;intro cc hcc;obtain⟨j,z',e1,e2⟩:=wX g2 hcc;exact((g3 j cc z' e1 e2).bnd hdom).mono (R.le hii h2)
       ·rw[Map.nA hk2]at h5;exact h.cb i' h1 h2 k cs y h3 h4 h5
     ·rw[Map.jH (hdom k u z hz)];exact hz
    ·-- a load that may come before or behind a store,or a call
     have hex:∃ (j:Nat) (y:jM),ks[j]?=some y/\y.k.loud y.q=true/\j≠i/\¬ Ud l i j:=by
      refine Classical.byContradiction fun hno=>hcmp fun j y hy hl hne=>Classical.byContradiction fun hc=>hno ⟨j,y,hy,hl,hne,hc⟩
     obtain⟨j0,y0,hy0,hl0,hne0,alO⟩:=hex;have alP:∃ g0 m0 ax,x.k.IV=.load g0 m0 ax/\runK E rec x.q (f i) (ev.take i) (.load g0 m0 ax)=some (v,f (i+1))/\wW n (f i).H.length v /\
       ∀ (p:Ref) (yy:FV),dH E (f i) (ev.take i) ax=some yy->((∃ off,yy=.r p off)\/∃ az sz i off,yy=.e p az sz i off) ->
        ∀ (j:Nat) (y:jM),ks[j]?=some y->y.k.loud y.q=true->j≠i->j<l.length->¬ Ud l i j->(Gr l f (j+1))[p.abs n]?=(Gr l f j)[p.abs n]?:=by
      rcases(R.ord.mem j0 i y0 x hy0 hx hne0 hl0 hm).resolve_left (fun hc=>alO hc.symm) with ⟨hxq,p0,hp0,alQ⟩|⟨psj,g0,m0,ax,d1,d2,d3,d4⟩
      ·obtain⟨m0,b0,x0,g0,m0',a0,e1,e2,e3⟩:=uZ hp0;subst e3;obtain⟨p,po,p',po',hva,hvb,hpp⟩:=apart_spec R.apart alQ;rw[R.vrs 0 ae]at hva;have ai6:dH E (f i) (ev.take i) (.var a0)=some (.r p po):=by simp only[dH,hvars];exact hva
       have hrun':=hrun;rw[e2,hxq]at hrun';obtain⟨y,hvy⟩:=TG ai6 hrun';refine⟨g0,m0',.var a0,by rw[e2];rfl,by rw[<-e2];exact hrun,by rw[hvy];exact .d _,fun pp yy hyy hor j y hy hl hne hjl hnc => ?_⟩;rw[ai6]at hyy;cases hyy;obtain rfl:pp=p:=by
        rcases hor with ⟨_,e⟩|⟨_,_,_,_,e⟩
        ·cases e;rfl
        ·cases e
       rcases(R.ord.mem j i y x hy hx hne hl hm).resolve_left (fun hc=>hnc hc.symm) with ⟨_,pj,hpj,alS⟩|⟨_,_,_,_,_,q2,_⟩
       ·obtain⟨mj,bj,xj,gj,mj',aj,d1,d2,d3⟩:=uZ hpj;subst d3;rw[e2]at d2;cases d2;obtain⟨pq,pqo,pq',alT,hqa,hqb,Zo⟩:=apart_spec R.apart alS;rw[R.vrs 0 ae]at hqa hqb;rw[hva]at hqa;cases hqa;rw[R.base 0 ae]at Zo;obtain⟨vj,_,hj⟩:=R.tr.step j y hy;rcases hj with ⟨_,_,hj⟩|⟨_,hj⟩
        ·exact congrArg (fun L:List ai=>L[pp.abs n]?) (jO (H:=fun i=>(f i).H) hjl (new:=[]) (by simp[hj]))
        ·rw[d1]at hj;obtain⟨oo,Jk⟩:=OU (b:=bj) (p:=pq') (o0:=alT) (by rw[R.vrs j ae];exact hqb) hj;rw[R.base j ae]at Jk;exact LX (H:=fun i=>(f i).H) hjl Jk Zo
       ·rw[e2]at q2;cases q2
      ·have hrun':=hrun;rw[d2]at hrun';obtain⟨hr1,hb1⟩:=nT hrun';refine⟨g0,m0,ax,by rw[d2];rfl,hr1,af7 hbase hb1,fun pp yy hyy hor j y hy hl hne hjl hnc => ?_⟩;rcases(R.ord.mem j i y x hy hx hne hl hm).resolve_left (fun hc=>hnc hc.symm) with ⟨_,pj,hpj,_⟩|⟨aoe,g',m',ax',q1,q2,q3,b,hb,hsb⟩
       ·obtain⟨_,_,_,_,_,_,_,q2,_⟩:=uZ hpj;rw[d2]at q2;cases q2
       ·rw[d2]at q2;cases q2;obtain⟨vj,_,hj⟩:=R.tr.step j y hy;simp only[Qs2]at hj;rcases hj with ⟨_,_,hj⟩|⟨_,hj⟩
        ·exact congrArg (fun L:List ai=>L[pp.abs n]?) (jO (H:=fun i=>(f i).H) hjl (new:=[]) (by simp[hj]))
        ·rcases q1 with ⟨fj',aof,q1⟩|⟨nj,pj,vj',q1⟩
         rotate_left
         ·rw[q1]at hj;obtain⟨af9,hj1⟩:=oH hj;have hax:dH E (f j) (ev.take j) ax=some yy:=EN (R.vrs j ae) hvars ae hyy;obtain⟨q,oo,hqo,Zo⟩:=LU (by rw[<-LZ hsb];exact hax) (show yy.target=some pp by rcases hor with ⟨_,rfl⟩|⟨_,_,_,_,rfl⟩<;>rfl) af9 hb hj1;rw[R.base j ae]at hqo Zo;exact LX (H:=fun i=>(f i).H) hjl hqo (Ne.symm Zo)
         rw[q1]at hj;obtain⟨hloc,st1,hj1,hj2⟩:=GI hj;obtain⟨pl,po,hab⟩:=Bc hloc hb;have hax:dH E (f j) (ev.take j) ax=some yy:=EN (R.vrs j ae) hvars ae hyy;rw[LZ hsb,hab]at hax;cases hax;obtain rfl:pp=.loc pl:=by
          rcases hor with ⟨_,e⟩|⟨_,_,_,_,e⟩
          ·cases e;rfl
          ·cases e
         rcases hj2 with ⟨_,h5,new,h6⟩|⟨h5,h6⟩
         ·exact congrArg (fun L:List ai=>L[(Ref.loc pl).abs n]?) (jO (H:=fun i=>(f i).H) hjl (new:=new) (by simp only[St.H,h5,h6,Qm1]))
         ·refine TC (H:=fun i=>(f i).H) hjl (R.mono j hjl) (fun hk => ?_);have hb1:=(pV R.rl hj1).base;have hbj:=R.base j ae;rw[h6];simp only[St.H,Ref.abs]at hk ⊢;rw[Qb0]at hk;have hpl:pl<(f j).loc.length:=ae;have i1:n+pl-st1.base.length=pl:=ae;have i2:n+pl-(f j).base.length=pl:=ae;rw[Qb1 (show st1.base.length<=n+pl by omega),Qb1 (show(f j).base.length<=n+pl by omega),i1,i2];exact Qa0 hpl
     obtain⟨g0,m0,ax,ai7,hrun,ai8,adp⟩:=alP;have QF:∀ (p:Ref) (j:Nat) (y:jM),ks[j]?=some y->y.k.loud y.q=false->j<l.length->(Gr l f (j+1))[p.abs n]?=(Gr l f j)[p.abs n]?:=by
      intro p j y hy hl hjl;obtain⟨new,hn⟩:=R.quiet hy hl;exact congrArg (fun L:List ai=>L[p.abs n]?) (jO (H:=fun i=>(f i).H) hjl hn)
     have af_:∀ (p:Ref) (yy:FV),dH E (f i) (ev.take i) ax=some yy->((∃ off,yy=.r p off)\/∃ az sz i off,yy=.e p az sz i off)->(Gr l f r)[p.abs n]?=(Gr l f i)[p.abs n]?:=by
      intro p yy hyy hor;rcases Nat.le_total r i with Ho|Ho
      ·refine(EM (H:=fun i=>(f i).H) Ho (fun j h1 h2 => ?_)).symm;have hk:j<ks.length:=by rw[R.TE];omega
       cases hq:ks[j].k.loud ks[j].q with
       | false=>exact QF p j _ (Qa1 hk) hq ae
       | true =>
        refine adp p yy hyy hor j _ (Qa1 hk) hq ae ae (fun hc => ?_);have:=(h.wrote j _ (Qa1 hk) hq).1 ((hset j hc).1 h2);omega
      ·refine EM (H:=fun i=>(f i).H) Ho (fun j h1 h2 => ?_);have hrl:=h.rle;have hk:j<ks.length:=by rw[R.TE];omega
       cases hq:ks[j].k.loud ks[j].q with
       | false=>exact QF p j _ (Qa1 hk) hq ae
       | true =>
        have hlj:=(h.wrote j _ (Qa1 hk) hq).2 h2;have hne:j≠i:=fun e=>by subst e;rw[hun]at hlj;cases hlj
        refine adp p yy hyy hor j _ (Qa1 hk) hq hne ae (fun hc => ?_);rw[(hset j hc).2 ae]at hlj;cases hlj
     rw[ai7]at hcomp;obtain⟨hfi,hany⟩:=Ae hrun
     let st2:St:={vars:=(f i).vars,base:=(Gr l f r).take n,loc:=(Gr l f r).drop n,aR:=false}
     have hb2:st2.base.length=n:=by
      have:=R.ai5 (i:=l.length) (Qe1 _);simp only[st2,Qk0];omega
     have hH2:st2.base++st2.loc=Gr l f r:=Xh1 n _;have hS2:bq σ st2.base.length β I (fun b=>w.heap.size<=b) (fun _=>False) (st2.base++st2.loc) w:=by
      rw[hb2,hH2];exact h.qU.aht (fun _ h=>h) (fun _ _ _ _ _ _ _ h=>h.elim) (fun _ _ _ _ _ _ _ _ _ _ _ h=>h)
     have hA2:bZ P E cx σ β I w st2 (ev.take i) ((l.take i).map (·.dst)) a.eval o.op.operands.toList:=by
      intro ty z y v' hz hc hv';rw[hb2];exact(hop hz hc hv').1
     have ai9:=hany st2 rfl (fun q yy hq hor=>by
      have OX:=OW hrun hq hor;rw[St.fC]at OX;rw[hbase]at OX;obtain⟨oo,Jk⟩:=OX;have hpl:q.abs n<(f i).H.length:=(aU Jk)
      rw[St.fC,St.fC,hb2,hH2,hbase,af_ q yy hq hor];exact LY (H:=fun i=>(f i).H) hpl)
     refine kC hoi (hguard _ hg) (p8 R.gid R.bod R.rl R.rc hG hA2 hcomp ai9 (fun hl=>by simp[Fi.K.loud]at hl) hS2) (fun z w' hp=>hK _ w' ⟨r,β,?_⟩);obtain⟨β',I',hxt,hS',hR',hk'⟩:=hp;rw[hH2]at hk';rw[hb2]at hR';have hlr:(f i).H.length<=(Gr l f r).length:=by
      rw[adn];exact R.le ae (Qe1 _)
     refine⟨I',h.same R.ord ho hsl TH hv hqq hxt hS'.mr (ai8.mono (R.mono i hil)) ((hR'.upto ai8).mono (fun k u z hz => ?_) (fun _ h=>h) (fun _ _=>rfl))⟩;obtain⟨h1,h2⟩:=Map.df hz;rw[hk' k u ae (fun h=>h)]at h2;exact h2
end step
end
section
section comp
variable {P:Program} {cx:Cx}
theorem y5:∀ {l:List Oper} {aN:List (Option Tmp)} {ks:List jM},mW P cx l aN=some ks->ks.length=l.length /\
  ∀ (i:Nat) (o:Oper),l[i]?=some o->∃ x,ks[i]?=some x/\bg P cx (aN++(l.take i).map (·.dst)) o=some x.k/\x.guard=o.guard/\qY (aN++(l.take i).map (·.dst)) o.guard=true/\yx cx o.dst=true
 | [],aN,ks,h=>by
  simp[mW]at h;subst h;exact⟨rfl,fun i o hi=>by simp at hi⟩
 | o::l,aN,ks,h=>by
  simp only[mW]at h;split at h
  ·rename_i hg;simp only[Qc1]at hg;split at h<;>simp at h;subst h;rename_i k ks hk hks;obtain⟨h1,h2⟩:=y5 hks;refine⟨by simp[h1],fun i o' hi => ?_⟩;cases i with
   | zero =>
    simp at hi;subst hi;exact⟨_,rfl,by simpa using hk,rfl,by simpa using hg.1,hg.2⟩
   | succ i =>
    obtain⟨x,g1,g2,g3,g4,g5⟩:=h2 i o' (by simpa using hi);refine⟨x,by simpa using g1,?_,g3,?_,g5⟩
    ·simpa using g2
    ·simpa using g4
  ·cases h
theorem I9 {ms:List Nat}{ks:List jM}{i:Nat}{x:jM}(h:ks[i]?=some x):∃ y,(m_ ms ks)[i]?=some y/\y.k=x.k/\y.guard=x.guard:=by
 unfold m_;rw[Qc0,X51,h];exact⟨_,rfl,rfl,rfl⟩
theorem L8 {ms:List Nat}{ks:List jM}:(m_ ms ks).length=ks.length:=by simp[m_]
end comp
section region
variable {P:Program} {E:Env} {cx:Cx} {σ:Nat->Option FuncId} {Wr:Nat->Prop} {wd:Nat->Prop} {rec:Nat->List FV->List ai->bJ}
theorem Trace.kept (hrl:fe rec){ks:List jM}{env:List FV}{f:Nat->St}{vs:List FV}(t:Trace E rec ks env f vs){i:Nat}(hi:i<ks.length):Kept (f i) (f (i+1)):=by
 obtain⟨v,_,h⟩:=t.step i _ (Qa1 hi);rcases h with ⟨_,_,h⟩|⟨_,h⟩
 ·rw[h];exact .refl _
 ·exact pV hrl h
theorem Trace.YS (hrl:fe rec){ks:List jM}{env:List FV}{f:Nat->St}{vs:List FV}(t:Trace E rec ks env f vs){i j:Nat}(hij:i<=j)(hj:j<=ks.length):Kept (f i) (f j):=by
 induction j with
 | zero => have : i = 0 :=ae
           subst this;exact .refl _
 | succ j ih =>
  rcases Q70 hij with he|hl
  ·subst he;exact .refl _
  ·exact(ih ae ae).trans (t.kept hrl ae)
theorem OY (ms:List Nat)(ks:List jM):(zZ ms ks).length=ks.length:=by simp[zZ]
theorem TI (ms:List Nat)(ks:List jM):(GG ms ks).length=ks.length:=by simp[GG]
theorem OZ {ms:List Nat}{ks:List jM}{i:Nat}{x:jM}(h:ks[i]?=some x)(ht:x.k.IV=x.k):∃ y,(GG ms ks)[i]?=some y/\y.k.IV=x.k/\y.guard=x.guard:=by
 have h1:ks.zipIdx[i]?=some (x,i):=by simp[X51,h]
 unfold GG;rw[Qc0,h1];refine⟨_,rfl,?_⟩;simp only;split
 ·rename_i n p v hk;split
  ·exact⟨ht,rfl⟩
  ·exact⟨hk.symm,rfl⟩
 ·rename_i g m a hk;split
  ·exact⟨hk.symm,rfl⟩
  ·exact⟨ht,rfl⟩
 ·exact⟨ht,rfl⟩
theorem L9 {ms:List Nat}{ks:List jM}{i:Nat}{x:jM}(h:ks[i]?=some x)(ht:x.k.IV=x.k):∃ y,(zZ ms ks)[i]?=some y/\y.k.IV=x.k/\y.guard=x.guard:=by
 have h1:ks.zipIdx[i]?=some (x,i):=by simp[X51,h]
 unfold zZ;rw[Qc0,h1];refine⟨_,rfl,?_⟩;simp only;split
 ·rename_i f as hk;split
  ·exact⟨ht,rfl⟩
  ·exact⟨hk.symm,rfl⟩
 ·rename_i g m a hk;split
  ·exact⟨hk.symm,rfl⟩
  ·exact⟨ht,rfl⟩
 ·exact⟨ht,rfl⟩
theorem K.I_ {k:K}(h:k.OD=true):k.IV=k:=by cases k<;>first|rfl|(simp[K.OD]at h)
theorem O0 (hm:P.follows .mixedOrders=true)(bF:∀ f g,cx.gid f=some g->σ g=some f)(hB:Bodies P E σ)(hrl:fe rec)(hrec:kz P E σ rec){id:Nat}{ops:Array Oper}{Q:Exit->Act->World->Prop}
  {ks:List jM} {ap:List (Nat × Nat)} {ev:List FV} {st st':St} {a:Act} {w:World} {β:Map} {I:Nat->Prop}
  (hc:kX P cx ops.toList true=some (ks,ap)) (hap:lq st ap=true) (hr:ek E rec ks st []=some (st',ev)) (hmw:jE st.base.length st' wd)
  (hS:fO σ β I Wr wd w st) (hG:dS E σ I w) (hT:bA σ β I w st.base.length cx st.vars [] [] a)
  (hQ:∀ β' I' w' a',Ext E.mn β β' I I' Wr w w'->bq σ st.base.length β' I' Wr wd (st'.base++st'.loc) w'->bA σ β' I' w' st.base.length cx st.vars (ops.toList.map (·.dst)) ev a'->ev.length=ops.toList.length->a'.defers=a.defers->Q .normal a' w') :
  (Code.region id ops true).wp P Q a w:=by
 unfold kX at hc;split at hc
 ·cases hc
 ·rename_i Ub af';simp only[if_true]at hc;split at hc
  ·rename_i hok;simp only[Qc1]at hok;obtain⟨htm,hok⟩:=hok;simp only[Qe2,Qo0]at hc;obtain⟨rfl,rfl⟩:=hc;obtain⟨g1,g2⟩:=y5 af';obtain⟨ks1,alU,hl1,hw⟩:∃ ks1,(bif cx.ab7 then zZ (masks ops.toList []) Ub else bif cx.far then GG (masks ops.toList []) Ub else Ub)=ks1/\ks1.length=Ub.length/\∀ (i:Nat) (x:jM),Ub[i]?=some x->∃ y,ks1[i]?=some y/\y.k.IV=x.k/\y.guard=x.guard:=by
    cases hcw:cx.ab7 with
    | true=>exact⟨_,rfl,OY _ _,fun i x hx=>L9 hx (K.I_ (Qh0.1 htm x (Qa2 hx)))⟩
    | false=>cases hcf:cx.far with
     | true=>exact⟨_,rfl,TI _ _,fun i x hx=>OZ hx (K.I_ (Qh0.1 htm x (Qa2 hx)))⟩
     | false=>exact⟨_,rfl,rfl,fun i x hx=>⟨x,hx,K.I_ (Qh0.1 htm x (Qa2 hx)),rfl⟩⟩
   rw[alU]at hok hap hr;obtain⟨f,vs,e1,e2,e3,t⟩:=yV _ hr;simp only[Qs2]at e1;subst e1;generalize ai':m_ (masks ops.toList []) ks1=ks at*;have hkl:ks.length=ops.toList.length:=by rw[<-ai',L8,hl1,g1]
   have hK:∀ i,i<=ops.toList.length->Kept st (f i):=fun i hi=>by rw[<-e2];exact t.YS hrl (Qz2 _) ae
   have hK':∀ i,i<=ops.toList.length->Kept (f i) st':=fun i hi=>by rw[<-e3];exact t.YS hrl ae (Qe1 _)
   have hv0:∀ (j:Nat) (tt:Tmp) (y:FV),cx.vars[j]?=some tt->st.vars[j]?=some y->wW st.base.length (st.base++st.loc).length y:=fun j tt y h1 h2=>(hT.var j tt y h1 (fA _) h2).bnd hS.dom
   have R:TD P E cx σ rec ops.toList ks _ f ev st.base.length st.vars wd :=
    {gid:=bF,bod:=hB,rl:=hrl,rc:=hrec,TE:=hkl,tr:=t,base:=fun i hi=>(hK i hi).base,vrs:=fun i hi=>(hK i hi).vars,ord:=I7 hok,
     apart:=by rw[e2];exact hap,mw:=fun i hi=>hmw.back (hK' i hi).aR,ai4:=fun j tt y h1 h2=>by rw[e2];exact hv0 j tt y h1 h2,
     comp:=fun i o ho=>by
      obtain⟨x,a1,a2,a3,a4,a5⟩:=g2 i o ho;obtain⟨z,c1,c2,c3⟩:=hw i x a1;obtain⟨y,b1,b2,b3⟩:=I9 (ms:=masks ops.toList []) c1;rw[ai']at b1;exact⟨y,b1,by rw[b2,c2];simpa using a2,by rw[b3,c3];exact a3,by simpa using a4,a5⟩}
   refine wp_region_any hm ?_
   change wpAny P .any ops Q ops.size (Array.replicate ops.size false) a w.drew
   have hG':dS E σ I w.drew:=hG.mono (fun _ h=>h) (fun _ _=>rfl);have hrep:∀ j,(Array.replicate ops.size false).getD j false=false:=fun j=>by
    rcases Qg0 j ops.size with h|h
    ·simp[h]
    ·simp[h]
   have hH0:(f 0).H=st.base++st.loc:=by rw[e2];rfl
   refine TB (fun listed a' w'=>∃ r β' I',Inv E.mn cx σ ops.toList ks f ev st.base.length st.vars Wr wd β I w.drew a.defers r β' I' listed a' w') (fun i o e hi he hb=>R.ord.edge i o e (by rw[Qv1];exact hi) he hb)
    (fun listed a' w' i hs hcl ⟨r,β',I',hI⟩ hi Kn hKn=>R.step rfl hG' hs hcl hI hi Kn hKn) ?_ ops.size _ a w.drew aC (fun j o e _ hl=>by rw[hrep j]at hl;cases hl) aC ?_
   ·rintro listed a' w' ⟨r,β',I',hI⟩ hall;have hfull:Gr ops.toList f r=st'.base++st'.loc:=by
     have h1:Gr ops.toList f ops.toList.length=Gr ops.toList f r:=by
      refine GY (H:=fun i=>(f i).H) hI.rle (fun j h1 h2 => ?_);have hk:j<ks.length:=ae;cases hq:ks[j].k.loud ks[j].q with
      | false =>
       obtain⟨new,hn⟩:=R.quiet (Qa1 hk) hq;exact jO (H:=fun i=>(f i).H) h2 hn
      | true =>
       have:=(hI.wrote j _ (Qa1 hk) hq).1 (hall j (by simpa using h2));omega
     rw[<-h1];have:=LW (H:=fun i=>(f i).H) (m:=ops.toList.length);unfold Gr;rw[this,<-hkl,e3];rfl
    have L6:=hI.qU;rw[hfull]at L6;refine hQ β' I' w' a' ((yQ β I Wr w).trans hI.ext) L6 ⟨hI.size,fun j tt y h1 h2 h3 => ?_,fun tt j y h1 h2 => ?_⟩ (by rw[t.len,hkl]) hI.dfr
    ·refine hI.var j tt y h1 (fun i o ho ht => ?_) h3;refine absurd ?_ (yY h2);rw[Qg1];exact⟨o,Qa2 ho,ht⟩
    ·have h3:=rD h1;simp only[Qc0,Qf2]at h3;obtain⟨o,h4,h5⟩:=h3;have hj:=(aU h4)
     exact hI.loc j o tt y h4 h5 (hall j (by simpa using hj)) h2
   ·have hG0:Gr ops.toList f 0=(st.base++st.loc)++tails (fun i=>(f i).H) (ops.toList.length-0) 0:=by
     unfold Gr full;simp only[hH0]
    refine⟨0,β,I,⟨Qz2 _,.inl rfl,fun j x _ _=>by rw[hrep j];simp,?_,Ext.refl _ _ _ _,fun j hj _ k u h1 _ => ?_,fun i _ hi k cs x _ h2 h3 => ?_,fun j y hl=>absurd ((hrep j).symm.trans hl) aC,hT.size,
     fun j o tt y _ _ hl=>absurd ((hrep j).symm.trans hl) aC,fun j tt y h1 _ h3=>aJ.mono (w:=w) (w':=w.drew) (fun _ _ _ h=>h) (fun _ h=>h) (fun _ _=>rfl) (hT.var j tt y h1 (fA _) h3),rfl⟩⟩
    ·rw[hG0];exact(drew_grow hS).app _
    ·cases hβ:β k u with
     | none=>rfl
     | some y =>
      have h4:=hS.dom k u y hβ;have h5:=R.le (i:=0) (j:=j) (Qz2 _) ae;rw[hH0]at h5;omega
    ·have hk:=hS.dom k 0 x h3;rw[hG0,Qa0 hk]at h2;obtain⟨b,bo,cap⟩:=x;obtain⟨_,c,e,_,b2,b3⟩:=hS.box k cs b bo cap h2 h3;intro cc hcc;obtain⟨j,z,d1,d2⟩:=wX b2 hcc;have h5:=R.le (i:=0) (j:=i) (Qz2 _) hi;rw[hH0]at h5;exact((b3 j cc z d1 d2).bnd hS.dom).mono h5
  ·cases hc
theorem Ja (hm:P.follows .mixedOrders=true)(bF:∀ f g,cx.gid f=some g->σ g=some f)(hB:Bodies P E σ)(hrl:fe rec)(hrec:kz P E σ rec){id:Nat}{ops:Array Oper}{draw:Bool}{Q:Exit->Act->World->Prop}
  {ks:List jM} {ap:List (Nat × Nat)} {ev:List FV} {st st':St} {a:Act} {w:World} {β:Map} {I:Nat->Prop}
  (hc:kX P cx ops.toList draw=some (ks,ap)) (hap:lq st ap=true) (hr:ek E rec ks st []=some (st',ev)) (hmw:jE st.base.length st' wd)
  (hS:fO σ β I Wr wd w st) (hG:dS E σ I w) (hT:bA σ β I w st.base.length cx st.vars [] [] a)
  (hQ:∀ β' I' w' a',Ext E.mn β β' I I' Wr w w'->bq σ st.base.length β' I' Wr wd (st'.base++st'.loc) w'->bA σ β' I' w' st.base.length cx st.vars (ops.toList.map (·.dst)) ev a'->ev.length=ops.toList.length->a'.defers=a.defers->Q .normal a' w') :
  (Code.region id ops draw).wp P Q a w:=by
 cases draw with
 | true=>exact O0 hm bF hB hrl hrec hc hap hr hmw hS hG hT hQ
 | false =>
  unfold kX at hc;split at hc
  ·cases hc
  ·rename_i Ub af';simp only[Qi0,if_false,Qe2,Qo0]at hc;obtain⟨rfl,rfl⟩:=hc;exact wp_region_list (uT bF hB hrl hrec ops.toList af' hr rfl (fun j d h=>by simp at h) (fun j=>by simp) hmw hS hG hT (fun β' I' w' a' h1 h2 h3 h4 h5=>hQ β' I' w' a' h1 h2 (by simpa using h3) (by simpa using h4) h5))
end region
end
end Fi
