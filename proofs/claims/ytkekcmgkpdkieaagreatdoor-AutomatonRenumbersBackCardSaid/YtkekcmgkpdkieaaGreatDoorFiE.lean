import Derived.Test.YtkekcmgkpdkieaaGreatDoorFiD
import Derived.LoopN
import Derived.KernelRfl
set_option linter.unusedVariables false
set_option linter.unusedSimpArgs false
namespace Fi
open Go
section
theorem qG {env:List FV}{aL:List (Option Tmp)}:∀ (ts:List Tmp) (i:Nat) (vars:List FV) {j:Nat},j<i->(jg vars env (mQ aL ts i))[j]?=vars[j]?
 | [],i,vars,j,h=>rfl
 | t::ts,i,vars,j,h=>by
  simp only[mQ];split
  ·simp only[jg];rw[qG ts (i+1) _ omK,Qd0 omK]
  ·exact qG ts (i+1) vars omK
theorem v_ {env:List FV}{aL:List (Option Tmp)}:∀ (ts:List Tmp) (i:Nat) (vars:List FV) {j:Nat} {t:Tmp},i<=j->ts[j-i]?=some t ->
  (jg vars env (mQ aL ts i))[j]?=match fF aL t with|none=>vars[j]?|some j'=>(vars.set j (env.getD j' .u))[j]?
 | [],i,vars,j,t,h,ht=>by simp at ht
 | t0::ts,i,vars,j,t,h,ht=>by
  simp only[mQ];rcases Xb2 h with he|hl
  ·subst he;simp only[Xq0,Qw0,Qe0]at ht;subst ht;split
   ·rename_i g hg;simp only[jg,hg];exact qG ts (i+1) _ (Xz1 i)
   ·rename_i hg;simp only[hg];exact qG ts (i+1) _ (Xz1 i)
  ·have ht':ts[j-(i+1)]?=some t:=by
    rw[show j-i=(j-(i+1))+1 by omega]at ht;simpa using ht
   split
   ·simp only[jg];rw[v_ ts (i+1) _ omK ht'];split
    ·rw[Qd0 omK]
    ·simp[Xp1]
   ·exact v_ ts (i+1) vars omK ht'
theorem Ae:∀ (js:List Nat) (vars:List FV) {j:Nat} {y:FV},(mG vars js)[j]?=some y->y=.u\/vars[j]?=some y
 | [],vars,j,y,h=>.inr h
 | i::js,vars,j,y,h=>by
  simp only[mG]at h;rcases Ae js _ h with h1|h1
  ·exact .inl h1
  ·rw[Xp1]at h1;split at h1
   ·split at h1
    ·cases h1;exact .inl rfl
    ·cases h1
   ·exact .inr h1
section tmps
variable {cx:Cx} {σ:Nat->Option FuncId} {β:Map} {I:Nat->Prop} {w:World} {n:Nat} {vars:List FV} {env:List FV} {aL:List (Option Tmp)} {a:Act}
theorem a_.out (h:a_ σ β I w n cx vars aL env a)(hl:env.length=aL.length):a_ σ β I w n cx (jg vars env (mQ aL cx.vars 0)) [] [] a:=by
 refine⟨h.size,fun j t y h1 _ h3 => ?_,fun t j y h1=>by rw[eT]at h1;cases h1⟩;rw[v_ cx.vars 0 vars (Q02 _) (by simpa using h1)]at h3;split at h3
 ·rename_i hno;exact h.var j t y h1 hno h3
 ·rename_i j' hj';rw[Xp1]at h3;simp only[if_true]at h3;split at h3
  ·cases h3;have h4:=(Qu0.1 (qE hj')).1;have h5:env[j']?=some (env.getD j' .u):=by
    rw[Qh1,Qa0 omK];rfl
   exact h.loc t j' _ hj' h5
  ·cases h3
theorem a_.kill (h:a_ σ β I w n cx vars [] [] a)(js:List Nat):a_ σ β I w n cx (mG vars js) [] [] a:=by
 refine⟨h.size,fun j t y h1 h2 h3 => ?_,h.loc⟩;rcases Ae js vars h3 with h4|h4
 ·subst h4;exact .u _
 ·exact h.var j t y h1 h2 h4
end tmps
def Dj:Out->Exit
 | .norm=>.normal
 | .exit id=>.exit id
 | .ret=>.ret
def RP (E:Env)(N:Nat):Nat->List FV->List ae->bG:=fun g args B=>enter E g args B fun F st'=>exec E N F st'
def Ia (P:Program)(E:Env)(σ:Nat->Option FuncId)(N:Nat):Prop :=
 ∀ (cx:Cx),(∀ f g,cx.gid f=some g->σ g=some f)->∀ (c:Code) (F:aG),comp P cx c=some F->∀ (st:St) (o:Out) (st':St),exec E N F st=some (o,st') ->
  ∀ (Wr wd:Nat->Prop) (β:Map) (I:Nat->Prop) (w:World) (a:Act) (Q:Exit->Act->World->Prop),jf st.base.length st' wd->aH σ st.base.length β I Wr wd (st.base++st.loc) w->dJ E σ I w ->
   a_ σ β I w st.base.length cx st.vars [] [] a ->
   (∀ β' I' w' a',Ext E.mn β β' I I' Wr w w'->aH σ st.base.length β' I' Wr wd (st'.base++st'.loc) w'->a_ σ β' I' w' st.base.length cx st'.vars [] [] a'->a'.defers=a.defers->Q (Dj o) a' w') ->
   c.wp P Q a w
section exec
variable {P:Program} {E:Env} {σ:Nat->Option FuncId}
theorem tH (hm:P.follows .mixedOrders=true)(hB:Bodies P E σ){N:Nat}(hrec:∀ M,M<N->jT P E σ (RP E M)){cx:Cx}(bC:∀ f g,cx.gid f=some g->σ g=some f){id:Nat}{ops:Array Oper}{draw:Bool}
  {ks:List jm} {ap:List (Nat × Nat)} (hc:kG P cx ops.toList draw=some (ks,ap)) {st st':St} {o:Out} (hx:exec E N (.region ks (mQ (ops.toList.map (·.dst)) cx.vars 0) ap) st=some (o,st')) :
  o=.norm/\∀ (Wr wd:Nat->Prop) (β:Map) (I:Nat->Prop) (w:World) (a:Act) (Q:Exit->Act->World->Prop),jf st.base.length st' wd->aH σ st.base.length β I Wr wd (st.base++st.loc) w->dJ E σ I w ->
   a_ σ β I w st.base.length cx st.vars [] [] a ->
   (∀ β' I' w' a',Ext E.mn β β' I I' Wr w w'->aH σ st.base.length β' I' Wr wd (st'.base++st'.loc) w'->a_ σ β' I' w' st.base.length cx st'.vars [] [] a'->a'.defers=a.defers->Q .normal a' w') ->
   (Code.region id ops draw).wp P Q a w:=by
 cases N with
 | zero=>simp[exec]at hx
 | succ N =>
  simp only[exec]at hx;split at hx
  ·rename_i hap;split at hx
   ·rename_i st1 ev hr;simp only[Qe0,Qm2]at hx;obtain⟨rfl,rfl⟩:=hx;refine⟨rfl,fun Wr wd β I w a Q hmw hS hG hT hQ => ?_⟩;have hk:=ll (Pg E N) _ hr;refine H_ hm bC hB (Pg E N) (hrec N (Xz1 N)) hc hap hr hmw hS hG hT (fun β' I' w' a' h1 h2 h3 h4 h5=>hQ β' I' w' a' h1 h2 ?_ h5);have:=h3.out (by rw[h4,Qk2]);simp only[hk.vars];exact this
   ·cases hx
  ·cases hx
theorem vK (hm:P.follows .mixedOrders=true)(hB:Bodies P E σ)(N:Nat)(hrec:∀ M,M<N->jT P E σ (RP E M)):∀ M,M<=N->Ia P E σ M:=by
 intro M
 induction M with
 | zero=>intro _ cx bC c F hc st o st' hx;simp[exec]at hx
 | succ M ih =>
  intro hMN cx bC c F hc st o st' hx Wr wd β I w a Q hmw hS hG hT hQ;have ih:=ih omK
  -- a step,and then another
  have chain:∀ {c1:Code} {F1:aG} {st1:St} {o1:Out} {Q1:Exit->Act->World->Prop},comp P cx c1=some F1->exec E M F1 st=some (o1,st1)->(st1.aP=true->st'.aP=true) ->
    (∀ β' I' w' a',Ext E.mn β β' I I' Wr w w'->aH σ st1.base.length β' I' Wr wd (st1.base++st1.loc) w'->dJ E σ I' w'->a_ σ β' I' w' st1.base.length cx st1.vars [] [] a'->a'.defers=a.defers->Q1 (Dj o1) a' w')->c1.wp P Q1 a w:=by
   intro c1 F1 st1 o1 Q1 h1 h2 h3 h4;have hk:=dN E M _ _ _ _ h2;refine ih cx bC c1 F1 h1 st o1 st1 h2 Wr wd β I w a Q1 (hmw.back h3) hS hG hT (fun β' I' w' a' e1 e2 e3 e4=>h4 β' I' w' a' e1 ?_ (hG.mono e1.im e1.eU) ?_ e4)
   ·rw[hk.base];exact e2
   ·rw[hk.base];exact e3
  -- and the other
  have next:∀ {c1:Code} {F1:aG} {st1:St} {o1:Out} {Q1:Exit->Act->World->Prop} {β1:Map} {I1:Nat->Prop} {w1:World} {a1:Act},comp P cx c1=some F1->exec E M F1 st1=some (o1,st')->st1.base.length=st.base.length ->
    Ext E.mn β β1 I I1 Wr w w1->aH σ st1.base.length β1 I1 Wr wd (st1.base++st1.loc) w1->dJ E σ I1 w1->a_ σ β1 I1 w1 st1.base.length cx st1.vars [] [] a1->a1.defers=a.defers ->
    (∀ β' I' w' a',Ext E.mn β β' I I' Wr w w'->aH σ st.base.length β' I' Wr wd (st'.base++st'.loc) w'->a_ σ β' I' w' st.base.length cx st'.vars [] [] a'->a'.defers=a.defers->Q1 (Dj o1) a' w')->c1.wp P Q1 a1 w1:=by
   intro c1 F1 st1 o1 Q1 β1 I1 w1 a1 h1 h2 h3 h4 h5 h6 h7 h8 h9;refine ih cx bC c1 F1 h1 st1 o1 st' h2 Wr wd β1 I1 w1 a1 Q1 (by rw[h3];exact hmw) h5 h6 h7 (fun β' I' w' a' e1 e2 e3 e4=>h9 β' I' w' a' (h4.trans e1) ?_ ?_ (e4.trans h8))
   ·rw[<-h3];exact e2
   ·rw[<-h3];exact e3
  cases c<;>simp only[comp]at hc
  case skip =>
   cases hc;simp only[exec,Qe0,Qm2]at hx;obtain⟨rfl,rfl⟩:=hx;exact wp_skip (hQ β I w a (Ext.refl _ _ _ _) hS hT rfl)
  case region id ops draw =>
   split at hc
   ·rename_i ks ap hks;split at hc
    ·cases hc;obtain⟨rfl,hmain⟩:=tH (id:=id) hm hB (fun M' h=>hrec M' omK) bC hks hx;exact hmain Wr wd β I w a Q hmw hS hG hT hQ
    ·rename_i js _;cases hc;simp only[exec]at hx;split at hx
     ·rename_i st1 hx1;obtain⟨_,hmain⟩:=tH (id:=id) hm hB (fun M' h=>hrec M' omK) bC hks hx1;cases M with
      | zero=>simp[exec]at hx
      | succ M =>
       simp only[exec,Qe0,Qm2]at hx;obtain⟨rfl,rfl⟩:=hx;exact hmain Wr wd β I w a Q hmw hS hG hT (fun β' I' w' a' h1 h2 h3 h4=>hQ β' I' w' a' h1 h2 (h3.kill _) h4)
     ·rename_i hne;obtain⟨rfl,_⟩:=tH (id:=id) hm hB (fun M' h=>hrec M' omK) bC hks hx;exact absurd hx (hne _)
   ·cases hc
  case seq x y =>
   split at hc
   ·rename_i F1 F2 hF1 hF2;cases hc;simp only[exec]at hx;split at hx
    ·rename_i st1 hx1;have hk:=dN E M _ _ _ _ hx;have hk1:=dN E M _ _ _ _ hx1;exact wp_seq (chain hF1 hx1 hk.aP (fun β1 I1 w1 a1 e1 e2 e3 e4 e5=>next hF2 hx hk1.base e1 e2 e3 e4 e5 hQ))
    ·rename_i r hne;refine wp_seq (chain hF1 hx (fun h=>h) (fun β1 I1 w1 a1 e1 e2 e3 e4 e5 => ?_));have hk1:=dN E M _ _ _ _ hx;rw[hk1.base]at e2 e4;cases o with
     | norm=>exact absurd hx (hne _)
     | exit id=>exact hQ β1 I1 w1 a1 e1 e2 e4 e5
     | ret=>exact hQ β1 I1 w1 a1 e1 e2 e4 e5
   ·cases hc
  case cond x c1 c2 =>
   split at hc
   ·rename_i y F1 F2 hy hF1 hF2;cases hc;simp only[exec]at hx;split at hx
    ·rename_i t ht;have hr:=hT.args (P:=P) bC hG (st:=st) rfl rfl [x] _ x y _ (by simp) hy ht;have hev:a.eval x=.bool t:=by
      generalize hz:a.eval x=z at hr;cases hr with|d hr=>cases hr;rfl
     refine wp_cond hev ?_;cases t
     ·exact chain hF2 hx (fun h=>h) (fun β1 I1 w1 a1 e1 e2 e3 e4 e5=>by
       have hk1:=dN E M _ _ _ _ hx;rw[hk1.base]at e2 e4;exact hQ β1 I1 w1 a1 e1 e2 e4 e5)
     ·exact chain hF1 hx (fun h=>h) (fun β1 I1 w1 a1 e1 e2 e3 e4 e5=>by
       have hk1:=dN E M _ _ _ _ hx;rw[hk1.base]at e2 e4;exact hQ β1 I1 w1 a1 e1 e2 e4 e5)
    ·cases hx
   ·cases hc
  case block id c1 =>
   split at hc
   ·rename_i F1 hF1;cases hc;simp only[exec]at hx;split at hx
    ·rename_i id' st1 hx1;have hk1:=dN E M _ _ _ _ hx1;refine wp_block (chain hF1 hx1 (fun h=>by split at hx<;>(cases hx;exact h)) (fun β1 I1 w1 a1 e1 e2 e3 e4 e5 => ?_));rw[hk1.base]at e2 e4;simp only[Dj,Exit.inBlock];split at hx<;>rename_i hid<;>simp only[Qe0,Qm2]at hx<;>obtain⟨rfl,rfl⟩:=hx
     ·rw[if_pos hid];exact hQ β1 I1 w1 a1 e1 e2 e4 e5
     ·rw[if_neg hid];exact hQ β1 I1 w1 a1 e1 e2 e4 e5
    ·rename_i hne;have hk1:=dN E M _ _ _ _ hx;refine wp_block (chain hF1 hx (fun h=>h) (fun β1 I1 w1 a1 e1 e2 e3 e4 e5 => ?_));rw[hk1.base]at e2 e4;cases o with
     | norm=>exact hQ β1 I1 w1 a1 e1 e2 e4 e5
     | exit id'=>exact absurd hx (hne _ _)
     | ret=>exact hQ β1 I1 w1 a1 e1 e2 e4 e5
   ·cases hc
  case loop c1 =>
   split at hc
   ·rename_i F1 hF1;cases hc
    -- rounds,by fuel
    have rounds:∀ K,K<=M+1->∀ (st1:St) (β1:Map) (I1:Nat->Prop) (w1:World) (a1:Act),exec E K (.loop F1) st1=some (o,st')->st1.base.length=st.base.length->Ext E.mn β β1 I I1 Wr w w1 ->
      aH σ st1.base.length β1 I1 Wr wd (st1.base++st1.loc) w1->dJ E σ I1 w1->a_ σ β1 I1 w1 st1.base.length cx st1.vars [] [] a1->a1.defers=a.defers->Code.rounds P c1 Q K a1 w1:=by
     intro K
     induction K with
     | zero=>intro _ st1 β1 I1 w1 a1 h1;simp[exec]at h1
     | succ K ihK =>
      intro hK st1 β1 I1 w1 a1 h1 h2 h3 h4 h5 h6 h7;have hE:Ia P E σ K:=vK hm hB K (fun M' h=>hrec M' omK) K (Qd1 _);simp only[exec]at h1;rw[rounds_succ];split at h1
      ·rename_i st2 hx1;have hk2:=dN E K _ _ _ _ h1;have hk1:=dN E K _ _ _ _ hx1;refine hE cx bC c1 F1 hF1 st1 _ st2 hx1 Wr wd β1 I1 w1 a1 _ ?_ h4 h5 h6 (fun β' I' w' a' e1 e2 e3 e4 => ?_)
       ·rw[h2];exact hmw.back hk2.aP
       ·exact ihK omK st2 β' I' w' a' h1 (hk1.base.trans h2) (h3.trans e1) (by rw[hk1.base];exact e2) (h5.mono e1.im e1.eU) (by rw[hk1.base];exact e3) (e4.trans h7)
      ·rename_i hne;refine hE cx bC c1 F1 hF1 st1 _ st' h1 Wr wd β1 I1 w1 a1 _ (by rw[h2];exact hmw) h4 h5 h6 (fun β' I' w' a' e1 e2 e3 e4 => ?_);rw[h2]at e2 e3;cases o with
       | norm=>exact absurd h1 (hne _)
       | exit id'=>exact hQ β' I' w' a' (h3.trans e1) e2 e3 (e4.trans h7)
       | ret=>exact hQ β' I' w' a' (h3.trans e1) e2 e3 (e4.trans h7)
    exact wp_loop_rounds (M+1) (rounds (M+1) (Qd1 _) st β I w a hx rfl (Ext.refl _ _ _ _) hS hG hT rfl)
   ·cases hc
  case exit id =>
   cases hc;simp only[exec,Qe0,Qm2]at hx;obtain⟨rfl,rfl⟩:=hx;exact wp_exit (hQ β I w a (Ext.refl _ _ _ _) hS hT rfl)
  case ret =>
   cases hc;simp only[exec,Qe0,Qm2]at hx;obtain⟨rfl,rfl⟩:=hx;exact wp_ret (hQ β I w a (Ext.refl _ _ _ _) hS hT rfl)
  all_goals cases hc
end exec
end
section
def mP (P:Program)(E:Env)(σ:Nat->Option FuncId):Prop :=
 ∀ g F,E.fn g=some F->∀ f,σ g=some f->∃ fn cx,P.funcs[f]?=some fn/\fJ P cx fn=some F/\∀ f' g',cx.gid f'=some g'->σ g'=some f'
def iQ (P:Program)(E:Env)(σ:Nat->Option FuncId):Prop :=
 (∀ g p,E.ja g=some p->∀ args ds v,jV args=some ds->p ds=some v->iJ P E σ g args [] (.d v,none)) /\
 ∀ g p,E.iF g=some p->∀ args B r,p args B=some r->iJ P E σ g args B r
theorem KN {P:Program}{w:World}{α β:Type}{g:α->Sem β}:∀ {l:List α} {vs:List β},vs.length=l.length->(∀ (i:Nat) (x:α) (v:β),l[i]?=some x->vs[i]?=some v->(g x).run P w=.ok v w)->(l.mapM g).run P w=.ok vs w
 | [],[],_,_=>rfl
 | [],_::_,h,_=>by simp at h
 | _::_,[],h,_=>by simp at h
 | x::l,v::vs,h,hg=>by
  rw[List.mapM_cons];have h1:=hg 0 x v rfl rfl;have h2:=KN (g:=g) (l:=l) (vs:=vs) (by simpa using h) (fun i y u hy hu=>hg (i+1) y u (by simpa using hy) (by simpa using hu));simp only[Sem.run_bind,h1,Result.andThen_ok,h2,Sem.run_pure]
def mR (vs:List Value):Value:=match vs with
 | [v]=>v
 | vs=>.tuple vs.toArray
section top
variable {P:Program} {E:Env} {σ:Nat->Option FuncId}
def Pn (P:Program)(tmps:Array Value)(w:World)(rv:ResultVar)(v:Value):Prop :=
 match rv with
 | .tmp t=>v=tmps.getD t undef
 | .cell t ty=>∃ ad,tmps.getD t undef=.pointer (some ad)/\(loadVar ty ad).run P w=.ok v w
theorem zU {fn:Func}{tmps:Array Value}{w:World}{vs:List Value}(hl:vs.length=fn.results.toList.length)(h:∀ (i:Nat) (rv:ResultVar) (v:Value),fn.results.toList[i]?=some rv->vs[i]?=some v->Pn P tmps w rv v) :
  (results fn tmps).run P w=.ok (mR vs) w:=by
 unfold results;rw[Array.mapM_eq_mapM_toList];simp only[Sem.run_bind,Sem.run_map,Sem.run_pure];rw[KN hl (fun i rv v h1 h2 => ?_)]
 ·simp only[Result.andThen_ok]
  congr 1
  match vs with
  | []=>rfl
  | [v]=>rfl
  | _::_::_=>simp[mR]
 ·have:=h i rv v h1 h2;cases rv with
  | tmp t=>simp only[Pn]at this;subst this;rfl
  | cell t ty =>
   obtain⟨ad,h3,h4⟩:=this;simp only[h3,asAddr,Sem.run_bind,Sem.run_pure,Result.andThen_ok];exact h4
theorem xC {cx:Cx}{β:Map}{I Wr wd:Nat->Prop}{w:World}{st:St}{a:Act}(hS:aH σ st.base.length β I Wr wd (st.base++st.loc) w)(hT:a_ σ β I w st.base.length cx st.vars [] [] a) :
  ∀ {l:List ResultVar} {rs:List Res} {xs:List FV},nE P cx l=some rs->lL st rs=some xs ->
   ∃ vs:List Value,vs.length=l.length/\(∀ (i:Nat) (rv:ResultVar) (v:Value),l[i]?=some rv->vs[i]?=some v->Pn P a.tmps w rv v)/\gy σ β I w st.base.length xs vs
 | [],rs,xs,hc,hv=>by
  simp[nE]at hc;subst hc;simp[lL]at hv;subst hv;exact⟨[],rfl,fun i rv v h=>by simp at h,rfl,fun i c x h=>by simp at h⟩
 | .tmp t::l,rs,xs,hc,hv=>by
  simp only[nE]at hc;split at hc<;>simp at hc;subst hc;rename_i j s hj hs;simp only[lL]at hv;split at hv<;>simp at hv;subst hv;rename_i y ys hy hys;obtain⟨vs,g1,g2,g3⟩:=xC hS hT hs hys;simp only[F9]at hy;have hr:=hT.var j t y (nL hj) (eT _) hy;refine⟨a.tmps.getD t undef::vs,by simp[g1],fun i rv v h1 h2 => ?_,by simp[g3.1],fun i c x h1 h2 => ?_⟩
  ·cases i with
   | zero=>simp at h1 h2;subst h1;subst h2;simp[Pn]
   | succ i=>exact g2 i rv v (by simpa using h1) (by simpa using h2)
  ·cases i with
   | zero =>
    simp only[Qw0,Qe0]at h1 h2;subst h1;subst h2;exact hr
   | succ i=>exact g3.2 i c x (by simpa using h1) (by simpa using h2)
 | .cell t ty::l,rs,xs,hc,hv=>by
  simp only[nE]at hc;split at hc<;>simp at hc;subst hc;rename_i j g m s hj hg hm hs;simp only[lL]at hv;split at hv<;>simp at hv;subst hv;rename_i y ys hy hys;obtain⟨vs,g1,g2,g3⟩:=xC hS hT hs hys;simp only[F9]at hy;split at hy
  ·rename_i q off hq;split at hy
   ·rename_i cs Rx;have hr:=hT.var j t _ (nL hj) (eT _) hq;generalize hz:a.eval (.tmp t)=z at hr;cases hr with
    | @r _ _ b bo cap hβ =>
     rw[St.eZ]at Rx;obtain⟨rfl,c,e,h1,h2,h3⟩:=hS.box _ cs b bo cap Rx hβ;obtain⟨v,h4,h5⟩:=Kw hg hm h1 h2 h3 hy;refine⟨v::vs,by simp[g1],fun i rv u h6 h7 => ?_,by simp[g3.1],fun i c x h6 h7 => ?_⟩
     ·cases i with
      | zero =>
       simp only[Qw0,Qe0]at h6 h7;subst h6;subst h7;exact⟨_,hz,by simpa using h4⟩
      | succ i=>exact g2 i rv u (by simpa using h6) (by simpa using h7)
     ·cases i with
      | zero =>
       simp only[Qw0,Qe0]at h6 h7;subst h6;subst h7;exact h5
      | succ i=>exact g3.2 i c x (by simpa using h6) (by simpa using h7)
   ·cases hy
  ·cases hy
theorem uA {β:Map}{I:Nat->Prop}{w:World}{n:Nat}{ys:List FV}{vs:List Value}(h:gy σ β I w n ys vs):aI σ β I w n (oneOf ys) (mR vs):=by
 match ys,vs,h with
 | [y],[v],h=>exact h.2 0 y v rfl rfl
 | [],[],h=>exact aI.uC (cs:=[]) (vs:=#[]) rfl (fun i c x h=>by simp at h)
 | _::_::_,_::_::_,h =>
  simp only[oneOf,mR];exact aI.uC (by simpa using h.1) (fun i c x h1 h2=>h.2 i c x h1 (by simpa using h2))
 | [],_::_,h=>exact absurd h.1 (by simp)
 | [_],[],h=>exact absurd h.1 (by simp)
 | [_],_::_::_,h=>exact absurd h.1 (by simp)
 | _::_::_,[],h=>exact absurd h.1 (by simp)
 | _::_::_,[_],h=>exact absurd h.1 (by simp)
theorem qH {N:Nat}(hE:Ia P E σ N){f:FuncId}{fn:Func}{cx:Cx}{F:ai}(hf:P.funcs[f]?=some fn)(hc:fJ P cx fn=some F)(bC:∀ f' g',cx.gid f'=some g'->σ g'=some f'){args:List FV}{B:List ae}
  (hnp:args.length=F.np) {o:Out} {st':St} (hx:exec E N F.body {vars:=args++List.replicate (F.nv-F.np) .u,base:=B,loc:=[],aP:=false}=some (o,st')) (ho:∀ id,o≠.exit id) {xs:List FV} (hres:lL st' F.res=some xs)
  {Wr wd:Nat->Prop} {β:Map} {I:Nat->Prop} {w:World} {bg:Array Value} (hmw:jf B.length st' wd) (hS:aH σ B.length β I Wr wd B w) (hA:gy σ β I w B.length args bg.toList) (hG:dJ E σ I w) {R:Ending->World->Prop}
  (hR:∀ β' I' w' vs,Ext E.mn β β' I I' Wr w w'->aH σ st'.base.length β' I' Wr wd (st'.base++st'.loc) w'->gy σ β' I' w' st'.base.length xs vs->R (.returned (mR vs)) w') :
  Calls P f bg w R:=by
 unfold fJ at hc;split at hc
 ·cases hc
 ·rename_i c hb;split at hc
  ·rename_i b rs hcb hcr;simp only at hc;split at hc<;>simp only[Qe0,reduceCtorEq]at hc;subst hc;rename_i hh;obtain⟨h1,h2,h3,h4⟩:=hh;have hvs:bg.size=fn.params.size+fn.nfree:=by
    have:=hA.1;simp only[Xh1]at this;rw[this];exact hnp
   simp only at hnp hx;have hlt:∀ j,j<fn.params.size+fn.nfree->cx.vars[j]?=some j:=by
    intro j hj;have h5:(cx.vars.take (fn.params.size+fn.nfree))[j]?=some j:=by rw[h1,Xh0 hj]
    rw[Qp1,if_pos hj]at h5;exact h5
   have hle:fn.params.size+fn.nfree<=fn.ntmps:=by
    rcases Qt0 (fn.params.size+fn.nfree) with h0|h0
    ·omega
    ·have h5:=hlt (fn.params.size+fn.nfree-1) omK;have h6:fn.params.size+fn.nfree-1<cx.ntmps:=by simpa using Qf2.1 h4 _ (Qa2 h5)
     rw[h3]at h6;omega
   refine calls_of_wp hf hb ?_;have hk:=dN E N _ _ _ _ hx;refine hE cx bC c b hcb _ o st' hx Wr wd β I w _ _ hmw (by simpa using hS) hG ⟨?_,fun j t y h5 _ h6 => ?_,fun t j y h5=>by rw[eT]at h5;cases h5⟩ (fun β' I' w' a' e1 e2 e3 e4 => ?_)
   ·simp only[Array.size_append,Array.size_replicate];omega
   ·rcases Qg1 j (fn.params.size+fn.nfree) with hj|hj
    ·rw[hlt j hj]at h5;cases h5;rw[Qa1 omK]at h6;have h7:bg.toList[j]?=some (bg[j]'(by omega)):=by rw[Qu2,Qh2 omK]
     have h8:=hA.2 j y _ h6 h7;have h9:(Act.eval {tmps:=bg++Array.replicate (fn.ntmps-bg.size) undef,defers:=[]} (.tmp j))=bg[j]'(by omega):=by
      simp only[Act.eval,Qs1];rw[Xj0 omK,Qh2 omK];rfl
     rw[h9];exact h8
    ·rw[Qc1 omK,Xl2]at h6;split at h6
     ·cases h6;exact .u _
     ·cases h6
   ·rw[<-hk.base]at e2 e3;obtain⟨vs,g1,g2,g3⟩:=xC (P:=P) e2 e3 hcr hres;have hend:a'.defers=[]/\∃ v,(results fn a'.tmps).run P w'=.ok v w'/\R (.returned v) w':=⟨e4,_,zU g1 g2,hR β' I' w' vs e1 e2 g3⟩
    cases o with
    | norm=>exact hend
    | ret=>exact hend
    | exit id=>exact absurd rfl (ho id)
  ·cases hc
theorem NL {F:ai}{st:St}{r:FV × Option (List ae)}(h:finish F st=some r):∃ xs,lL st F.res=some xs/\((F.ref=true/\r=fZ (oneOf xs) st)\/∃ ys,fV st xs=some ys/\r=fZ (oneOf ys) (aK st (xs.flatMap FV.rows))):=by
 unfold finish at h;split at h
 ·cases h
 ·rename_i xs hxs;split at h
  ·rename_i hF;cases h;exact⟨xs,hxs,.inl ⟨hF,rfl⟩⟩
  ·split at h
   ·cases h
   ·rename_i ys hys;cases h;exact⟨xs,hxs,.inr ⟨ys,hys,rfl⟩⟩
theorem NM (hF:mP P E σ)(hP:iQ P E σ){N:Nat}(hE:Ia P E σ N):jT P E σ (RP E N):=by
 intro g args B r hr;have adR:Given E g:=by
  have hr:=hr;unfold RP enter at hr;split at hr
  ·rename_i p hp;exact .inr (.inl (by rw[hp];rfl))
  ·split at hr
   ·split at hr
    ·rename_i p hp;exact .inr (.inr (by rw[hp];rfl))
    ·cases hr
   ·rename_i F hFn;exact .inl (by rw[hFn];rfl)
 refine⟨adR,?_⟩;unfold RP enter at hr;split at hr
 ·rename_i p hp;split at hr
  ·rename_i ds hds;split at hr
   ·rename_i v hv;cases hr;exact hP.1 g p hp args ds v hds hv
   ·cases hr
  ·cases hr
 ·split at hr
  ·split at hr
   ·rename_i p hp;split at hr
    ·rename_i v B' hpv;split at hr
     ·cases hr;exact hP.2 g p hp args B _ hpv
     ·cases hr
    ·exact hP.2 g p hp args B _ hr
   ·cases hr
  ·rename_i F hFn;split at hr
   ·rename_i hnp;split at hr
    ·cases hr
    ·rename_i o st' hne hx;have ho:∀ id,o≠.exit id:=fun id e=>hne id e
     obtain⟨xs,h1,h3⟩:=NL hr;have hk:=dN E N _ _ _ _ hx;rcases h3 with ⟨_,h3⟩|⟨ys,h2,h3⟩
     ·unfold fZ at h3;split at h3
      ·rename_i Ot;simp only[Qb2,Qs2]at Ot;subst h3;intro f hσ β I w bg hS hA hG;obtain⟨fn,cx,hf,hc,bC⟩:=hF g F hFn f hσ;refine qH hE hf hc bC hnp hx ho h1 ⟨fun k h=>h,fun hd=>by rw[Ot.2]at hd;cases hd⟩ hS hA hG (fun β' I' w' vs e1 e2 e3 => ?_);have hl:=uA e3;obtain⟨z,hz⟩:∃ z,oneOf xs=.d z:=by
        cases hy:oneOf xs<;>rw[hy]at Ot<;>simp[jZ]at Ot;exact⟨_,rfl⟩
       rw[hz]at hl;cases hl with
       | d hl=>exact⟨mR vs,z,I',rfl,hz,hl,e1.im,fun b hb=>e1.gZ b hb,e2.lH,e1.size,fun b hb=>e1.keepW b hb omK,e1.os,e1.tape,e1.output,e1.drawn⟩
      ·subst h3;intro f hσ β I Wr w bg hS hA hG;obtain⟨fn,cx,hf,hc,bC⟩:=hF g F hFn f hσ;refine qH hE hf hc bC hnp hx ho h1 ⟨fun _ _=>trivial,fun _ _=>trivial⟩ hS hA hG (fun β' I' w' vs e1 e2 e3 => ?_);have hl:=uA e3;refine⟨mR vs,β',I',rfl,e1,fun n' wd' => ?_,fun n'=>hl.aA n'⟩;exact e2.old e2.jX (fun k o' b bo cap h4 h5 _=>(e2.wr k o' b bo cap h4 h5).1 trivial)
     have hkf:=Kept.aK (xs.flatMap FV.rows) st';unfold fZ at h3;split at h3
     ·rename_i Ot;simp only[Qb2,Qs2]at Ot;subst h3;intro f hσ β I w bg hS hA hG;obtain⟨fn,cx,hf,hc,bC⟩:=hF g F hFn f hσ;have hnd:st'.aP=false:=by
       cases hd:st'.aP with
       | false=>rfl
       | true=>rw[hkf.aP hd]at Ot;exact absurd Ot.2 (by simp)
      refine qH hE hf hc bC hnp hx ho h1 ⟨fun k h=>h,fun hd=>by rw[hnd]at hd;cases hd⟩ hS hA hG (fun β' I' w' vs e1 e2 e3 => ?_);obtain⟨I1,hfz⟩:=iO (xs.flatMap FV.rows) e2;have hl:=uA (gD e2 h2 e3 hfz.im (hfz.DZ e2));obtain⟨z,hz⟩:∃ z,oneOf ys=.d z:=by
       cases hy:oneOf ys<;>rw[hy]at Ot<;>simp[jZ]at Ot;exact⟨_,rfl⟩
      rw[hz]at hl;cases hl with
      | d hl =>
       refine⟨mR vs,z,I1,rfl,hz,hl,fun b hb=>hfz.im b (e1.im b hb),fun b hb => ?_,hfz.pW.lH,e1.size,fun b hb=>e1.keepW b hb omK,e1.os,e1.tape,e1.output,e1.drawn⟩;rcases hfz.gZ b hb with h|⟨k,o',bo,cap,h4,h5,h6⟩
       ·exact e1.gZ b h
       ·rcases h6 with h6|h6
        ·rw[h6]at Ot;exact absurd Ot.2 (by simp)
        ·exact .inr ((e2.wr k o' b bo cap h4 h5).1 (by rw[hk.base]at h6;exact h6))
     ·subst h3;intro f hσ β I Wr w bg hS hA hG;obtain⟨fn,cx,hf,hc,bC⟩:=hF g F hFn f hσ;refine qH hE hf hc bC hnp hx ho h1 ⟨fun _ _=>trivial,fun _ _=>trivial⟩ hS hA hG (fun β' I' w' vs e1 e2 e3 => ?_);obtain⟨I1,hfz⟩:=iO (xs.flatMap FV.rows) e2;have hl:=uA (gD e2 h2 e3 hfz.im (hfz.DZ e2));refine⟨mR vs,β',I1,rfl,?_,fun n' wd' => ?_,fun n' => ?_⟩
      ·refine⟨e1.bm,fun b hb=>hfz.im b (e1.im b hb),fun b hb => ?_,e1.size,e1.eU,e1.keepW,e1.os,e1.tape,e1.output,e1.drawn⟩;rcases hfz.gZ b hb with h|⟨k,o',bo,cap,h4,h5,_⟩
       ·exact e1.gZ b h
       ·exact .inr ((e2.wr k o' b bo cap h4 h5).1 trivial)
      ·rw[hkf.base];exact hfz.pW.old hfz.pW.jX (fun k o' b bo cap h4 h5 _=>(hfz.pW.wr k o' b bo cap h4 h5).1 trivial)
      ·rw[hkf.base];exact hl.aA n'
    ·cases hr
   ·cases hr
theorem pU (hm:P.follows .mixedOrders=true)(hB:Bodies P E σ)(hF:mP P E σ)(hP:iQ P E σ)(N:Nat):jT P E σ (RP E N):=by
 induction N using Nat.strongRecOn with
 | ind N ih=>exact NM hF hP (vK hm hB N ih N (Qd1 _))
theorem Fy (hm:P.follows .mixedOrders=true)(hB:Bodies P E σ)(hF:mP P E σ)(hP:iQ P E σ){N g:Nat}{args:List FV}{y:FV}(h:bW E N g args []=some (y,none)){f:FuncId}(hσ:σ g=some f)
  {I:Nat->Prop} {w:World} {bg:Array Value} (hI:∀ b,I b->b<w.heap.size) (hA:gy σ (fun _ _=>none) I w 0 args bg.toList) (hG:dJ E σ I w) :
  Calls P f bg w fun e w'=>∃ x z I',e=.returned x/\y=.d z/\bB σ I' w' z x/\Grow E.mn I I' w w' :=
 (pU hm hB hF hP N g args [] _ h).2 f hσ _ I w bg (.empty _ hI (fun _ h=>h)) hA hG
end top
end
def sg (n:Nat)(g:Nat):Option Nat:=bif Nat.blt g n then some g else none
def kD (E:Env)(no:List Nat):Bool:=no.all fun g=>(E.fn g).isNone&&(E.ja g).isNone&&(E.iF g).isNone
theorem alR {c:Bool}{A B:Option ai}{F:ai}{Q:Prop}(hA:A=some F->Q)(hB:B=some F->Q):(bif c then A else B)=some F->Q:=by
 cases c
 ·exact hB
 ·exact hA
theorem ac4 {g k:Nat}{fk F:ai}{Q:Prop}(h:g=k->fk=F->Q):(bif Nat.beq g k then some fk else none)=some F->Q:=by
 intro hb;cases hc:Nat.beq g k with
 | false=>rw[hc]at hb;cases hb
 | true =>
  rw[hc]at hb;simp only[cond_true,Qe0]at hb;exact h (Ql2 hc) hb
def ac3 (T:List Nat)(f:FuncId):Option Nat:=T[f]?
def KO (T:List Nat)(g:Nat):Option FuncId:=T.findIdx? (Nat.beq g)
def nodupB:List Nat->Bool
 | []=>true
 | x::r => !(r.any (Nat.beq x))&&nodupB r
theorem Pp {T:List Nat}{g f:Nat}(h:KO T g=some f):T[f]?=some g:=by
 unfold KO at h;rw[Qv1]at h;obtain⟨h1,h2,_⟩:=h;rw[Qa0 h1,<-Ql2 h2]
theorem Ib:∀ {T:List Nat} {g f:Nat},nodupB T=true->T[f]?=some g->KO T g=some f
 | [],_,_,_,h=>by simp at h
 | x::r,g,f,hn,h=>by
  simp only[nodupB,Qb2,Qs2]at hn;unfold KO;rw[X32];cases f with
  | zero =>
   simp only[Qw0,Qe0]at h;subst h;simp
  | succ f =>
   simp only[Xv0]at h;have hne:Nat.beq g x=false:=by
    cases hb:Nat.beq g x with
    | false=>rfl
    | true =>
     have:=Ql2 hb;subst this;rw[Xh2.2 ⟨g,Qa2 h,by simp⟩]at hn;exact absurd hn.1 (by simp)
   rw[hne];have:=Ib hn.2 h;unfold KO at this;simp[this]
def Ic (P:Program)(T no:List Nat):Bool :=
 T.zipIdx.all fun x=>(no.any fun k=>Nat.beq x.1 k)||match P.funcs[x.2]? with
  | some fn => fn.body.isSome && !(fn.name == "runtime.NumGoroutine")
  | none=>false
theorem aap {P:Program}{E:Env}{T no:List Nat}(h:Ic P T no=true)(h2:kD E no=true):Bodies P E (KO T):=by
 intro g f hg hf;have hat:=Pp hf;have h3:=Qf2.1 h (g,f) (by rw[Xr0];exact hat);have hno:(no.any fun k=>Nat.beq g k)=false:=by
  cases ha:no.any fun k=>Nat.beq g k with
  | false=>rfl
  | true =>
   obtain⟨k,hk,he⟩:=Xh2.1 ha;have:=Ql2 he;subst this;have h4:=Qf2.1 h2 g hk;simp only[Qb2,Option.isNone_iff_eq_none]at h4;rcases hg with hg|hg|hg
   ·rw[h4.1.1]at hg;cases hg
   ·rw[h4.1.2]at hg;cases hg
   ·rw[h4.2]at hg;cases hg
 simp only[hno,Xc1]at h3;split at h3
 ·rename_i fn hfn;simp only[Qb2,Qs2]at h3;obtain⟨c,hc⟩:=Q50.1 h3.1;exact⟨fn,c,hfn,hc,h3.2⟩
 ·cases h3
def Ao (T X:List Nat)(g:Nat):Option FuncId:=if X.any (Nat.beq g) then KO T (g-2000) else KO T g
def aaq (T Y:List Nat)(f:FuncId):Option Nat:=match T[f]? with
 | some g=>if Y.any (Nat.beq (g+2000)) then some (g+2000) else some g
 | none=>none
def wh (T X no:List Nat):Bool:=X.all fun g => !(T.any (Nat.beq g)) && !(no.any (Nat.beq (g-2000)))
theorem A_ {X:List Nat}{g:Nat}:X.any (Nat.beq g)=true↔g ∈ X:=by
 rw[Xh2];exact⟨fun⟨x,hx,he⟩=>Ql2 he ▸ hx,fun h=>⟨g,h,by simp⟩⟩
theorem W_ {T X no:List Nat}(h:wh T X no=true){g:Nat}(hg:g ∈ T):X.any (Nat.beq g)=false:=by
 cases hb:X.any (Nat.beq g) with
 | false=>rfl
 | true =>
  rw[A_]at hb;have:=Qf2.1 h g hb;simp only[Qb2,Qs2]at this;rw[A_.2 hg]at this;cases this.1
theorem xz {T X no:List Nat}(hn:nodupB T=true)(ht:wh T X no=true){f g:Nat}(h:T[f]?=some g):Ao T X g=some f:=by
 unfold Ao;rw[W_ ht (Qa2 h),if_neg (by simp)];exact Ib hn h
theorem KP {T X Y no:List Nat}(hn:nodupB T=true)(ht:wh T X no=true)(hY:(Y.all fun y=>X.any (Nat.beq y))=true){f g:Nat}(h:aaq T Y f=some g):Ao T X g=some f:=by
 unfold aaq at h;split at h
 ·rename_i g' hg';split at h
  ·rename_i hy;cases h;have hx:X.any (Nat.beq (g'+2000))=true:=Qf2.1 hY (g'+2000) (A_.1 hy);unfold Ao;rw[if_pos hx,Q12];exact Ib hn hg'
  ·cases h;exact xz hn ht hg'
 ·cases h
theorem aar {P:Program}{E:Env}{T X no:List Nat}(h:Ic P T no=true)(ht:wh T X no=true)(h2:kD E no=true):Bodies P E (Ao T X):=by
 intro g f hg hf;unfold Ao at hf;split at hf
 ·rename_i hx;have hat:=Pp hf;have h3:=Qf2.1 h (g-2000,f) (by rw[Xr0];exact hat);have hno:=Qf2.1 ht g (A_.1 hx);simp only[Qb2,Qs2]at hno;have acW:(no.any fun k=>Nat.beq (g-2000) k)=false:=hno.2;simp only[acW,Xc1]at h3;split at h3
  ·rename_i fn hfn;simp only[Qb2,Qs2]at h3;obtain⟨c,hc⟩:=Q50.1 h3.1;exact⟨fn,c,hfn,hc,h3.2⟩
  ·cases h3
 ·exact aap h h2 g f hg hf
theorem aiK {P:Program}{T X no:List Nat}(hn:nodupB T=true)(ht:wh T X no=true){g k j:Nat}{F fk:ai}{cx:Cx}{fn:Func}(hg:g=k)(hF:fk=F)(hk:fJ P cx fn=some fk)(hf:P.funcs[j]?=some fn)(hj:T[j]?=some k)(hc:cx.gid=ac3 T) :
  ∀ f,Ao T X g=some f->∃ fn cx,P.funcs[f]?=some fn/\fJ P cx fn=some F/\∀ f' g',cx.gid f'=some g'->Ao T X g'=some f':=by
 intro f h;subst hg;subst hF;have:f=j:=by
  rw[xz hn ht hj]at h;exact(Qo2 h).symm
 subst this;refine⟨fn,cx,hf,hk,fun f' g' h' => ?_⟩;rw[hc]at h';exact xz hn ht h'
theorem alS {P:Program}{T X no:List Nat}(hn:nodupB T=true)(ht:wh T X no=true){Y:List Nat}{g k j:Nat}{F fk:ai}{cx:Cx}{fn:Func}(hg:g=k)(hF:fk=F)(hk:fJ P cx fn=some fk)(hf:P.funcs[j]?=some fn)(hj:Ao T X k=some j)(hY:(Y.all fun y=>X.any (Nat.beq y))=true)(hc:cx.gid=aaq T Y) :
  ∀ f,Ao T X g=some f->∃ fn cx,P.funcs[f]?=some fn/\fJ P cx fn=some F/\∀ f' g',cx.gid f'=some g'->Ao T X g'=some f':=by
 intro f h;subst hg;subst hF;have:f=j:=by
  rw[hj]at h;exact(Qo2 h).symm
 subst this;refine⟨fn,cx,hf,hk,fun f' g' h' => ?_⟩;rw[hc]at h';exact KP hn ht hY h'
def yes (r:bG):Bool:=match r with
 | some (.d (.v (.bool b)),none)=>b
 | _=>false
theorem abJ {r:bG}(h:yes r=true):r=some (.d (.v (.bool true)),none):=by
 unfold yes at h;split at h
 ·subst h;rfl
 ·cases h
section
theorem F4 (k:IntKind)(a b:Int):∃ z:Int,z=k.wrap (BitVec.ofInt k.bits a ||| BitVec.ofInt k.bits b).toNat:=⟨_,rfl⟩
theorem Ea (k:IntKind)(a b:Int):∃ z:Int,z=k.wrap (BitVec.ofInt k.bits a &&& BitVec.ofInt k.bits b).toNat:=⟨_,rfl⟩
theorem Eb (k:IntKind)(a b:Int):∃ z:Int,z=k.wrap (BitVec.ofInt k.bits a ^^^ BitVec.ofInt k.bits b).toNat:=⟨_,rfl⟩
theorem Ec (k:IntKind)(a b:Int):∃ z:Int,z=k.wrap (a*2 ^ (min b.toNat k.bits)):=⟨_,rfl⟩
noncomputable def Lc (k:IntKind) (a b:Int):Int:=Classical.choose (Ec k a b)
theorem Ap (k:IntKind)(a b:Int):Lc k a b=k.wrap (a*2 ^ (min b.toNat k.bits)):=Classical.choose_spec (Ec k a b)
noncomputable def Bj (k:IntKind) (a b:Int):Int:=Classical.choose (F4 k a b)
noncomputable def nP (k:IntKind) (a b:Int):Int:=Classical.choose (Ea k a b)
noncomputable def adT (k:IntKind) (a b:Int):Int:=Classical.choose (Eb k a b)
theorem yx (k:IntKind)(a b:Int):Bj k a b=k.wrap (BitVec.ofInt k.bits a ||| BitVec.ofInt k.bits b).toNat:=Classical.choose_spec (F4 k a b)
theorem Az (k:IntKind)(a b:Int):nP k a b=k.wrap (BitVec.ofInt k.bits a &&& BitVec.ofInt k.bits b).toNat:=Classical.choose_spec (Ea k a b)
theorem aas (k:IntKind)(a b:Int):adT k a b=k.wrap (BitVec.ofInt k.bits a ^^^ BitVec.ofInt k.bits b).toNat:=Classical.choose_spec (Eb k a b)
section
variable {k k':IntKind} {a b:Int}
theorem agP:gN .add (.int k a) (.int k b)=some (.int k (k.wrap (a+b))):=by simp[gN]
theorem agQ:gN .sub (.int k a) (.int k b)=some (.int k (k.wrap (a-b))):=by simp[gN]
theorem agR:gN .mul (.int k a) (.int k b)=some (.int k (k.wrap (a*b))):=by simp[gN]
theorem agS:gN .quo (.int k a) (.int k b)=if b=0 then none else some (.int k (k.wrap (a.tdiv b))):=by simp[gN]
theorem agT:gN .rem (.int k a) (.int k b)=if b=0 then none else some (.int k (a.tmod b)):=by simp[gN]
theorem ajr:gN .or (.int k a) (.int k b)=some (.int k (Bj k a b)):=by simp[gN,yx]
theorem agU:gN .and (.int k a) (.int k b)=some (.int k (nP k a b)):=by simp[gN,Az]
theorem agV:gN .xor (.int k a) (.int k b)=some (.int k (adT k a b)):=by simp[gN,aas]
theorem agW:gN .shl (.int k a) (.int k' b)=if b<0 then none else some (.int k (Lc k a b)):=by simp[gN,Ap]
theorem agX:gN .shr (.int k a) (.int k' b)=if b<0 then none else some (.int k (a.fdiv (2 ^ (min b.toNat k.bits)))):=by simp[gN]
theorem agY:gN .eql (.int k a) (.int k b)=some (.bool (a==b)):=by simp[gN]
theorem agZ:gN .neq (.int k a) (.int k b)=some (.bool (a != b)):=by simp[gN]
theorem ag0:gN .lss (.int k a) (.int k b)=some (.bool (decide (a<b))):=by simp[gN]
theorem ag1:gN .leq (.int k a) (.int k b)=some (.bool (decide (a<=b))):=by simp[gN]
theorem ag2:gN .gtr (.int k a) (.int k b)=some (.bool (decide (b<a))):=by simp[gN]
theorem ag3:gN .geq (.int k a) (.int k b)=some (.bool (decide (b<=a))):=by simp[gN]
end
end
section
section eqs
variable {E:Env} {n:Nat} {st:St}
theorem tJ {a b : aG} : exec E (n + 1) (.seq a b) st = match exec E n a st with
      | some (.norm, st') => exec E n b st'
      | r => r := rfl
theorem zo {x : Arg} {a b : aG} : exec E (n + 1) (.cond x a b) st = match dA E st [] x with
      | some (.d (.v (.bool t))) => exec E n (if t then a else b) st
      | _ => none := rfl
theorem kJ {id : Nat} {b : aG} : exec E (n + 1) (.block id b) st = match exec E n b st with
      | some (.exit id', st') => if id' = id then some (.norm, st') else some (.exit id', st')
      | r => r := rfl
theorem oM {b : aG} : exec E (n + 1) (.loop b) st = match exec E n b st with
      | some (.norm, st') => exec E n (.loop b) st'
      | r => r := rfl
theorem tK {ops:List jm}{outs apart:List (Nat × Nat)}:exec E (n+1) (.region ops outs apart) st =
  if kL st apart then(match dQ E (bW E n) ops st [] with
   | some (st',env)=>some (.norm,{st' with vars:=jg st'.vars env outs})
   | none=>none) else none:=rfl
theorem GI {g:Nat}{F:ai}{args:List FV}{B:List ae}(hp:E.ja g=none)(hf:E.fn g=some F)(hl:args.length=F.np) :
  bW E n g args B=match exec E n F.body {vars:=args++List.replicate (F.nv-F.np) .u,base:=B,loc:=[],aP:=false} with
    | some (.exit _,_)=>none
    | some (_,st')=>finish F st'
    | none=>none:=by
 unfold bW enter;rw[hp,hf];simp only[hl,if_true];rfl
theorem NN {g:Nat}{p:List FV->List ae->bG}{args:List FV}{B:List ae}(hp:E.ja g=none)(hf:E.fn g=none)(hB:E.iF g=some p) :
  bW E n g args B=match p args B with
    | some (v,some B')=>if B.length<=B'.length then some (v,some B') else none
    | r=>r:=by
 unfold bW enter;simp only[hp,hf,hB];rfl
end eqs
def Le (r r':Nat->List FV->List ae->bG):Prop:=∀ g args B x,r g args B=some x->r' g args B=some x
section mono
variable {E:Env} {r r':Nat->List FV->List ae->bG}
theorem uV (h:Le r r'){draw:Bool}{st:St}{g:Nat}{xs:List FV}{rows:List Ref}{z:FV × St}(hz:dY r draw st g xs rows=some z):dY r' draw st g xs rows=some z:=by
 unfold dY at hz ⊢;cases hr:r g xs [] with
 | none=>rw[hr]at hz;cases hz
 | some x=>rw[h _ _ _ _ hr];rw[hr]at hz;exact hz
theorem uW (h:Le r r'){draw:Bool}{st:St}{g:Nat}{xs:List FV}{rows:List Ref}{z:FV × St}(hz:dn r draw st g xs rows=some z):dn r' draw st g xs rows=some z:=by
 unfold dn at hz ⊢;cases hr:r g (FV.aR st.base.length xs) (((aK st rows).base++(aK st rows).loc).map (ae.aA st.base.length)) with
 | none=>rw[hr]at hz;cases hz
 | some x=>rw[h _ _ _ _ hr];rw[hr]at hz;exact hz
theorem tL (h:Le r r'){draw:Bool}{st:St}{g:Nat}{args:List FV}{z:FV × St}(hz:fU r draw st g args=some z):fU r' draw st g args=some z:=by
 unfold fU at hz ⊢;split at hz
 ·cases hz
 ·split at hz
  ·rename_i hc;rw[if_pos hc];exact uV h hz
  ·rename_i hc;rw[if_neg hc];exact uW h hz
theorem uX (h:Le r r'){st:St}{g:Nat}{args:List FV}{z:FV × St}(hz:dR E r st g args=some z):dR E r' st g args=some z:=by
 unfold dR at hz ⊢;split at hz
 ·cases hz
 ·rename_i xs hl;split at hz
  ·rename_i hr;rw[if_pos hr];split at hz
   ·rename_i hc;rw[if_pos hc];exact uV h hz
   ·rename_i hc;rw[if_neg hc];cases hq:r g (FV.aR st.base.length xs) ((st.base++st.loc).map (ae.aA st.base.length)) with
    | none=>rw[hq]at hz;cases hz
    | some x=>rw[h _ _ _ _ hq];rw[hq]at hz;exact hz
  ·cases hz
theorem RQ (h:Le r r'){draw:Bool}{st:St}{env:List FV}{k:K}{z:FV × St}(hz:runK E r draw st env k=some z):runK E r' draw st env k=some z:=by
 cases k with
 | call g args =>
  simp only[runK]at hz ⊢;split at hz
  ·exact tL h hz
  ·cases hz
 | mU f args =>
  simp only[runK]at hz ⊢;split at hz
  ·exact tL h hz
  ·exact tL h hz
  ·cases hz
 | qJ g args =>
  simp only[runK]at hz ⊢;split at hz
  ·exact uW h hz
  ·cases hz
 | lS f args ps =>
  simp only[runK]at hz ⊢;split at hz
  ·rename_i hp;rw[if_pos hp];split at hz
   ·exact uX h hz
   ·exact uX h hz
   ·cases hz
  ·cases hz
 | _=>exact hz
theorem lG (h:Le r r'):∀ {ops:List jm} {st:St} {env:List FV} {z:St × List FV},dQ E r ops st env=some z->dQ E r' ops st env=some z
 | [],st,env,z,hz=>hz
 | o::rest,st,env,z,hz=>by
  unfold dQ at hz ⊢;split at hz
  ·cases hz
  ·exact lG h hz
  ·rename_i hg;split at hz
   ·cases hz
   ·rename_i v st' hk;rw[RQ h hk];exact lG h hz
theorem Ed:∀ (n:Nat) (c:aG) (st:St) (z:Out × St),exec E n c st=some z->exec E (n+1) c st=some z
 | 0,_,_,_,h=>by cases h
 | n+1,c,st,z,h=>by
  have ih:=Ed n;have hc:Le (bW E n) (bW E (n+1)):=by
   intro g args B x hx;unfold bW enter at hx ⊢;split at hx
   ·exact hx
   ·split at hx
    ·exact hx
    ·rename_i F hF;split at hx
     ·rename_i hl;rw[if_pos hl];generalize hi:({vars:=args++List.replicate (F.nv-F.np) FV.u,base:=B,loc:=[],aP:=false}:St)=s0 at hx ⊢;cases he:exec E n F.body s0 with
      | none=>rw[he]at hx;cases hx
      | some z=>rw[ih _ _ _ he];rw[he]at hx;exact hx
     ·cases hx
  cases c with
  | skip=>exact h
  | ret=>exact h
  | exit id=>exact h
  | kill js=>exact h
  | region ops outs apart =>
   rw[tK]at h ⊢;split at h
   ·rename_i ha;rw[if_pos ha];split at h
    ·rename_i st' env hr;rw[lG hc hr];exact h
    ·cases h
   ·cases h
  | seq a b =>
   rw[tJ]at h ⊢;cases he:exec E n a st with
   | none=>rw[he]at h;cases h
   | some x =>
    obtain⟨o,st'⟩:=x;rw[ih _ _ _ he];rw[he]at h;cases o with
    | norm=>exact ih _ _ _ h
    | exit id=>exact h
    | ret=>exact h
  | cond x a b =>
   rw[zo]at h ⊢;split at h
   ·exact ih _ _ _ h
   ·cases h
  | block id b =>
   rw[kJ]at h ⊢;cases he:exec E n b st with
   | none=>rw[he]at h;cases h
   | some x=>rw[ih _ _ _ he];rw[he]at h;exact h
  | loop b =>
   rw[oM]at h ⊢;cases he:exec E n b st with
   | none=>rw[he]at h;cases h
   | some x =>
    obtain⟨o,st'⟩:=x;rw[ih _ _ _ he];rw[he]at h;cases o with
    | norm=>exact ih _ _ _ h
    | exit id=>exact h
    | ret=>exact h
theorem F5 {n m:Nat}{c:aG}{st:St}{z:Out × St}(h:exec E n c st=some z)(hm:n<=m):exec E m c st=some z:=by
 induction hm with
 | refl=>exact h
 | step _ ih=>exact Ed _ _ _ _ ih
theorem yH {n m g:Nat}{args:List FV}{B:List ae}{x:FV × Option (List ae)}(hx:bW E n g args B=some x)(hm:n<=m):bW E m g args B=some x:=by
 unfold bW enter at hx ⊢;split at hx
 ·exact hx
 ·split at hx
  ·exact hx
  ·rename_i F hF;split at hx
   ·rename_i hl;rw[if_pos hl];generalize hi:({vars:=args++List.replicate (F.nv-F.np) FV.u,base:=B,loc:=[],aP:=false}:St)=s0 at hx ⊢;cases he:exec E n F.body s0 with
    | none=>rw[he]at hx;cases hx
    | some z=>rw[F5 he hm];rw[he]at hx;exact hx
   ·cases hx
end mono
def Ca (E:Env)(g:Nat)(args:List FV)(r:FV × Option (List ae)):Prop:=∃ n0,∀ n,n0<=n->bW E n g args []=some r
theorem Ca.of {E:Env}{n g:Nat}{args:List FV}{r:FV × Option (List ae)}(h:bW E n g args []=some r):Ca E g args r:=⟨n,fun _ hm=>yH h hm⟩
end
end Fi
/-
 Which variables a function has,and which of them end behind a region: by bits,so that the kernel can reckon it.
-/
namespace Fi
open Go
def bs (t:Nat):Nat:=Nat.shiftLeft 1 t
def mns (a b:Nat):Nat:=Nat.sub a (Nat.land a b)
def oB (o:Oper):Nat:=o.op.operands.toList.foldl (fun s x=>match x with|.tmp t=>Nat.lor s (bs t)|_=>s) 0
def rgU:List Oper->Nat->Nat->Nat × Nat
 | [],u,d=>(u,d)
 | o::r,u,d=>rgU r (Nat.lor u (mns (oB o) d)) (match o.dst with | some t=>Nat.lor d (bs t) | none=>d)
inductive LC
 | z | rg (i u d:Nat) | sq (a b:LC) | cd (m:Nat) (a b:LC) | bk (i:Nat) (b:LC) | lp (b:LC) | ex (i:Nat) | rt
def NP:Code->LC
 | .region i ops _=>match rgU ops.toList 0 0 with | (u,d)=>.rg i u d
 | .seq a b=>.sq (NP a) (NP b)
 | .cond x a b=>.cd (match x with | .tmp t=>bs t | _=>0) (NP a) (NP b)
 | .block i b=>.bk i (NP b)
 | .loop b=>.lp (NP b)
 | .exit i=>.ex i
 | .ret=>.rt
 | _=>.z
def LC.use:LC->Nat
 | .rg _ u _=>u
 | .sq a b=>Nat.lor a.use b.use
 | .cd m a b=>Nat.lor m (Nat.lor a.use b.use)
 | .bk _ b | .lp b=>b.use
 | _=>0
abbrev As:=List (Nat × Nat)
def ag:As->Nat->Nat
 | [],_=>0
 | (k,v)::r,i=>bif Nat.beq k i then v else ag r i
def ap (i v:Nat):As->As
 | []=>[(i,v)]
 | (k,w)::r=>bif Nat.beq k i then(k,Nat.lor v w)::r else(k,w)::ap i v r
def lv:LC->Nat->As->Nat->As->Nat × As
 | .z,o,_,_,A=>(o,A)
 | .rg i u d,o,_,_,A=>(Nat.lor u (mns o d),ap i o A)
 | .sq a b,o,X,R,A=>match lv b o X R A with | (m,A)=>lv a m X R A
 | .cd m a b,o,X,R,A=>match lv a o X R A with | (p,A)=>match lv b o X R A with | (q,A)=>(Nat.lor m (Nat.lor p q),A)
 | .bk i b,o,X,R,A=>lv b o ((i,o)::X) R A
 | .lp b,_,X,R,A=>match lv b 0 X R A with | (p,A)=>lv b p X R A
 | .ex i,_,X,_,A=>(ag X i,A)
 | .rt,_,_,R,A=>(R,A)
/-- what may be alive behind a piece (none: it does not end),what ends behind each region,what is alive where a block is left -/
def oL:Option Nat->Option Nat->Option Nat
 | some p,some q=>some (Nat.lor p q)
 | none,y=>y
 | x,none=>x
def eg:List (Nat × Option Nat)->Nat->Option Nat
 | [],_=>none
 | (k,v)::r,i=>bif Nat.beq k i then v else eg r i
abbrev FS:=As × List (Nat × Option Nat)
def fw (V:Nat)(L:As):LC->Nat->FS->Option Nat × FS
 | .z,i,s=>(some i,s)
 | .rg j _ d,i,s=>match Nat.lor i (Nat.land d V) with | al=>match mns al (ag L j) with | k=>(some (mns al k),ap j k s.1,s.2)
 | .sq a b,i,s=>match fw V L a i s with | (some m,s)=>fw V L b m s | r=>r
 | .cd _ a b,i,s=>match fw V L a i s with | (x,s)=>match fw V L b i s with | (y,s)=>(oL x y,s)
 | .bk j b,i,s=>match fw V L b i (s.1,(j,none)::s.2) with | (x,s)=>(oL x (eg s.2 j),s)
 | .lp b,i,s=>match fw V L b i s with
  | (some p,s)=>(none,(fw V L b (Nat.lor i p) s).2)
  | (none,s)=>(none,s)
 | .ex j,i,s=>(none,s.1,(j,oL (eg s.2 j) (some i))::s.2)
 | .rt,_,s=>(none,s)
def bits (n m:Nat):List Nat:=(List.range n).filter (Nat.testBit m ·)
def pos (vs:List Nat)(m:Nat):List Nat:=vs.zipIdx.filterMap fun x=>bif Nat.testBit m x.1 then some x.2 else none
/-- The variables and what ends. -/
def lvs (F:Func):Option (List Tmp × List (Nat × List Nat)) :=
 match F.body with
 | none=>none
 | some c =>
  let C:=NP c
  let np:=F.params.size+F.nfree
  let R:=F.results.toList.foldl (fun s x=>match x with|.tmp t=>Nat.lor s (bs t)|.cell t _=>Nat.lor s (bs t)) 0
  let P:=Nat.sub (bs np) 1
  let V:=Nat.lor P (Nat.lor C.use R)
  let vs:=bits F.ntmps V
  some (vs,(fw V (lv C R [] R []).2 C P ([],[])).2.1.map fun x=>(x.1,pos vs x.2))
end Fi
