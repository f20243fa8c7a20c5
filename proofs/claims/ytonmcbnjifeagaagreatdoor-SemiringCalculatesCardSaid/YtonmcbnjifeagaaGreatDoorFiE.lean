/- Statements are sound; seats. -/
import Derived.Test.YtonmcbnjifeagaaGreatDoorFiD
import Derived.LoopN
import Derived.KernelRfl
import Derived.Test.YtonmcbnjifeagaaGreatDoorFiA
set_option linter.unusedVariables false
set_option linter.unusedSimpArgs false
namespace Fi
open Go
section
theorem nT {env:List FV}{aF:List (Option Tmp)}:∀ (ts:List Tmp) (i:Nat) (vars:List FV) {j:Nat},j<i->(gY vars env (kN aF ts i))[j]?=vars[j]?
 | [],i,vars,j,h=>rfl
 | t::ts,i,vars,j,h=>by
  simp only[kN];split
  ·simp only[gY];rw[nT ts (i+1) _ (by omega),List.getElem?_set_ne (by omega)]
  ·exact nT ts (i+1) vars (by omega)
theorem sI {env:List FV}{aF:List (Option Tmp)}:∀ (ts:List Tmp) (i:Nat) (vars:List FV) {j:Nat} {t:Tmp},i<=j->ts[j-i]?=some t ->
  (gY vars env (kN aF ts i))[j]?=match eG aF t with|none=>vars[j]?|some j'=>(vars.set j (env.getD j' .u))[j]?
 | [],i,vars,j,t,h,ht=>by simp at ht
 | t0::ts,i,vars,j,t,h,ht=>by
  simp only[kN];rcases Nat.eq_or_lt_of_le h with he|hl
  ·subst he;simp only[Nat.sub_self,List.getElem?_cons_zero,Option.some.injEq]at ht;subst ht;split
   ·rename_i g hg;simp only[gY,hg];exact nT ts (i+1) _ (Nat.lt_succ_self i)
   ·rename_i hg;simp only[hg];exact nT ts (i+1) _ (Nat.lt_succ_self i)
  ·have ht':ts[j-(i+1)]?=some t:=by
    rw[show j-i=(j-(i+1))+1 by omega]at ht;simpa using ht
   split
   ·simp only[gY];rw[sI ts (i+1) _ (by omega) ht'];split
    ·rw[List.getElem?_set_ne (by omega)]
    ·simp[List.getElem?_set]
   ·exact sI ts (i+1) vars (by omega) ht'
theorem wS:∀ (js:List Nat) (vars:List FV) {j:Nat} {y:FV},(kE vars js)[j]?=some y->y=.u\/vars[j]?=some y
 | [],vars,j,y,h=>.inr h
 | i::js,vars,j,y,h=>by
  simp only[kE]at h;rcases wS js _ h with h1|h1
  ·exact .inl h1
  ·rw[List.getElem?_set]at h1;split at h1
   ·split at h1
    ·cases h1;exact .inl rfl
    ·cases h1
   ·exact .inr h1
section tmps
variable {cx:Cx} {σ:Nat->Option FuncId} {β:Map} {I:Nat->Prop} {w:World} {n:Nat} {vars:List FV} {env:List FV} {aF:List (Option Tmp)} {a:Act}
theorem aR.out (h:aR σ β I w n cx vars aF env a)(hl:env.length=aF.length):aR σ β I w n cx (gY vars env (kN aF cx.vars 0)) [] [] a:=by
 refine⟨h.size,fun j t y h1 _ h3 => ?_,fun t j y h1=>by rw[dY]at h1;cases h1⟩;rw[sI cx.vars 0 vars (Nat.zero_le _) (by simpa using h1)]at h3;split at h3
 ·rename_i hno;exact h.var j t y h1 hno h3
 ·rename_i j' hj';rw[List.getElem?_set]at h3;simp only[if_true]at h3;split at h3
  ·cases h3;have h4:=(List.getElem?_eq_some_iff.1 (nR hj')).1;have h5:env[j']?=some (env.getD j' .u):=by
    rw[List.getD_eq_getElem?_getD,List.getElem?_eq_getElem (by omega)];rfl
   exact h.loc t j' _ hj' h5
  ·cases h3
theorem aR.kill (h:aR σ β I w n cx vars [] [] a)(js:List Nat):aR σ β I w n cx (kE vars js) [] [] a:=by
 refine⟨h.size,fun j t y h1 h2 h3 => ?_,h.loc⟩;rcases wS js vars h3 with h4|h4
 ·subst h4;exact .u _
 ·exact h.var j t y h1 h2 h4
end tmps
def yU:Out->Exit
 | .norm=>.normal
 | .exit id=>.exit id
 | .ret=>.ret
def MQ (E:Env)(N:Nat):Nat->List FV->List ae->bz:=fun g args B=>enter E g args B fun F st'=>exec E N F st'
def DX (P:Program)(E:Env)(σ:Nat->Option FuncId)(N:Nat):Prop :=
 ∀ (cx:Cx),(∀ f g,cx.gid f=some g->σ g=some f)->∀ (c:Code) (F:aD),comp P cx c=some F->∀ (st:St) (o:Out) (st':St),exec E N F st=some (o,st') ->
  ∀ (Wr wd:Nat->Prop) (β:Map) (I:Nat->Prop) (w:World) (a:Act) (Q:Exit->Act->World->Prop),ig st.base.length st' wd->aB σ st.base.length β I Wr wd (st.base++st.loc) w->dm E σ I w ->
   aR σ β I w st.base.length cx st.vars [] [] a ->
   (∀ β' I' w' a',Ext E.mn β β' I I' Wr w w'->aB σ st.base.length β' I' Wr wd (st'.base++st'.loc) w'->aR σ β' I' w' st.base.length cx st'.vars [] [] a'->a'.defers=a.defers->Q (yU o) a' w') ->
   c.wp P Q a w
section exec
variable {P:Program} {E:Env} {σ:Nat->Option FuncId}
theorem p9 (hm:P.follows .mixedOrders=true)(hB:Bodies P E σ){N:Nat}(hrec:∀ M,M<N->iV P E σ (MQ E M)){cx:Cx}(aY:∀ f g,cx.gid f=some g->σ g=some f){id:Nat}{ops:Array Oper}{draw:Bool}
  {ks:List eT} {ap:List (Nat × Nat)} (hc:jm P cx ops.toList draw=some (ks,ap)) {st st':St} {o:Out} (hx:exec E N (.region ks (kN (ops.toList.map (·.dst)) cx.vars 0) ap) st=some (o,st')) :
  o=.norm/\∀ (Wr wd:Nat->Prop) (β:Map) (I:Nat->Prop) (w:World) (a:Act) (Q:Exit->Act->World->Prop),ig st.base.length st' wd->aB σ st.base.length β I Wr wd (st.base++st.loc) w->dm E σ I w ->
   aR σ β I w st.base.length cx st.vars [] [] a ->
   (∀ β' I' w' a',Ext E.mn β β' I I' Wr w w'->aB σ st.base.length β' I' Wr wd (st'.base++st'.loc) w'->aR σ β' I' w' st.base.length cx st'.vars [] [] a'->a'.defers=a.defers->Q .normal a' w') ->
   (Code.region id ops draw).wp P Q a w:=by
 cases N with
 | zero=>simp[exec]at hx
 | succ N =>
  simp only[exec]at hx;split at hx
  ·rename_i hap;split at hx
   ·rename_i st1 ev hr;simp only[Option.some.injEq,Prod.mk.injEq]at hx;obtain⟨rfl,rfl⟩:=hx;refine⟨rfl,fun Wr wd β I w a Q hmw hS hG hT hQ => ?_⟩;have hk:=jM (Ke E N) _ hr;refine DW hm aY hB (Ke E N) (hrec N (Nat.lt_succ_self N)) hc hap hr hmw hS hG hT (fun β' I' w' a' h1 h2 h3 h4 h5=>hQ β' I' w' a' h1 h2 ?_ h5);have:=h3.out (by rw[h4,List.length_map]);simp only[hk.vars];exact this
   ·cases hx
  ·cases hx
theorem rP (hm:P.follows .mixedOrders=true)(hB:Bodies P E σ)(N:Nat)(hrec:∀ M,M<N->iV P E σ (MQ E M)):∀ M,M<=N->DX P E σ M:=by
 intro M
 induction M with
 | zero=>intro _ cx aY c F hc st o st' hx;simp[exec]at hx
 | succ M ih =>
  intro hMN cx aY c F hc st o st' hx Wr wd β I w a Q hmw hS hG hT hQ;have ih:=ih (by omega)
  -- a step,and then another
  have chain:∀ {c1:Code} {F1:aD} {st1:St} {o1:Out} {Q1:Exit->Act->World->Prop},comp P cx c1=some F1->exec E M F1 st=some (o1,st1)->(st1.aQ=true->st'.aQ=true) ->
    (∀ β' I' w' a',Ext E.mn β β' I I' Wr w w'->aB σ st1.base.length β' I' Wr wd (st1.base++st1.loc) w'->dm E σ I' w'->aR σ β' I' w' st1.base.length cx st1.vars [] [] a'->a'.defers=a.defers->Q1 (yU o1) a' w')->c1.wp P Q1 a w:=by
   intro c1 F1 st1 o1 Q1 h1 h2 h3 h4;have hk:=dB E M _ _ _ _ h2;refine ih cx aY c1 F1 h1 st o1 st1 h2 Wr wd β I w a Q1 (hmw.back h3) hS hG hT (fun β' I' w' a' e1 e2 e3 e4=>h4 β' I' w' a' e1 ?_ (hG.mono e1.im e1.eB) ?_ e4)
   ·rw[hk.base];exact e2
   ·rw[hk.base];exact e3
  -- and the other
  have next:∀ {c1:Code} {F1:aD} {st1:St} {o1:Out} {Q1:Exit->Act->World->Prop} {β1:Map} {I1:Nat->Prop} {w1:World} {a1:Act},comp P cx c1=some F1->exec E M F1 st1=some (o1,st')->st1.base.length=st.base.length ->
    Ext E.mn β β1 I I1 Wr w w1->aB σ st1.base.length β1 I1 Wr wd (st1.base++st1.loc) w1->dm E σ I1 w1->aR σ β1 I1 w1 st1.base.length cx st1.vars [] [] a1->a1.defers=a.defers ->
    (∀ β' I' w' a',Ext E.mn β β' I I' Wr w w'->aB σ st.base.length β' I' Wr wd (st'.base++st'.loc) w'->aR σ β' I' w' st.base.length cx st'.vars [] [] a'->a'.defers=a.defers->Q1 (yU o1) a' w')->c1.wp P Q1 a1 w1:=by
   intro c1 F1 st1 o1 Q1 β1 I1 w1 a1 h1 h2 h3 h4 h5 h6 h7 h8 h9;refine ih cx aY c1 F1 h1 st1 o1 st' h2 Wr wd β1 I1 w1 a1 Q1 (by rw[h3];exact hmw) h5 h6 h7 (fun β' I' w' a' e1 e2 e3 e4=>h9 β' I' w' a' (h4.trans e1) ?_ ?_ (e4.trans h8))
   ·rw[<-h3];exact e2
   ·rw[<-h3];exact e3
  cases c<;>simp only[comp]at hc
  case skip =>
   cases hc;simp only[exec,Option.some.injEq,Prod.mk.injEq]at hx;obtain⟨rfl,rfl⟩:=hx;exact wp_skip (hQ β I w a (Ext.refl _ _ _ _) hS hT rfl)
  case region id ops draw =>
   split at hc
   ·rename_i ks ap hks;split at hc
    ·cases hc;obtain⟨rfl,hmain⟩:=p9 (id:=id) hm hB (fun M' h=>hrec M' (by omega)) aY hks hx;exact hmain Wr wd β I w a Q hmw hS hG hT hQ
    ·rename_i js _;cases hc;simp only[exec]at hx;split at hx
     ·rename_i st1 hx1;obtain⟨_,hmain⟩:=p9 (id:=id) hm hB (fun M' h=>hrec M' (by omega)) aY hks hx1;cases M with
      | zero=>simp[exec]at hx
      | succ M =>
       simp only[exec,Option.some.injEq,Prod.mk.injEq]at hx;obtain⟨rfl,rfl⟩:=hx;exact hmain Wr wd β I w a Q hmw hS hG hT (fun β' I' w' a' h1 h2 h3 h4=>hQ β' I' w' a' h1 h2 (h3.kill _) h4)
     ·rename_i hne;obtain⟨rfl,_⟩:=p9 (id:=id) hm hB (fun M' h=>hrec M' (by omega)) aY hks hx;exact absurd hx (hne _)
   ·cases hc
  case seq x y =>
   split at hc
   ·rename_i F1 F2 hF1 hF2;cases hc;simp only[exec]at hx;split at hx
    ·rename_i st1 hx1;have hk:=dB E M _ _ _ _ hx;have hk1:=dB E M _ _ _ _ hx1;exact wp_seq (chain hF1 hx1 hk.aQ (fun β1 I1 w1 a1 e1 e2 e3 e4 e5=>next hF2 hx hk1.base e1 e2 e3 e4 e5 hQ))
    ·rename_i r hne;refine wp_seq (chain hF1 hx (fun h=>h) (fun β1 I1 w1 a1 e1 e2 e3 e4 e5 => ?_));have hk1:=dB E M _ _ _ _ hx;rw[hk1.base]at e2 e4;cases o with
     | norm=>exact absurd hx (hne _)
     | exit id=>exact hQ β1 I1 w1 a1 e1 e2 e4 e5
     | ret=>exact hQ β1 I1 w1 a1 e1 e2 e4 e5
   ·cases hc
  case cond x c1 c2 =>
   split at hc
   ·rename_i y F1 F2 hy hF1 hF2;cases hc;simp only[exec]at hx;split at hx
    ·rename_i t ht;have hr:=hT.args (P:=P) aY hG (st:=st) rfl rfl [x] _ x y _ (by simp) hy ht;have hev:a.eval x=.bool t:=by
      generalize hz:a.eval x=z at hr;cases hr with|d hr=>cases hr;rfl
     refine wp_cond hev ?_;cases t
     ·exact chain hF2 hx (fun h=>h) (fun β1 I1 w1 a1 e1 e2 e3 e4 e5=>by
       have hk1:=dB E M _ _ _ _ hx;rw[hk1.base]at e2 e4;exact hQ β1 I1 w1 a1 e1 e2 e4 e5)
     ·exact chain hF1 hx (fun h=>h) (fun β1 I1 w1 a1 e1 e2 e3 e4 e5=>by
       have hk1:=dB E M _ _ _ _ hx;rw[hk1.base]at e2 e4;exact hQ β1 I1 w1 a1 e1 e2 e4 e5)
    ·cases hx
   ·cases hc
  case block id c1 =>
   split at hc
   ·rename_i F1 hF1;cases hc;simp only[exec]at hx;split at hx
    ·rename_i id' st1 hx1;have hk1:=dB E M _ _ _ _ hx1;refine wp_block (chain hF1 hx1 (fun h=>by split at hx<;>(cases hx;exact h)) (fun β1 I1 w1 a1 e1 e2 e3 e4 e5 => ?_));rw[hk1.base]at e2 e4;simp only[yU,Exit.inBlock];split at hx<;>rename_i hid<;>simp only[Option.some.injEq,Prod.mk.injEq]at hx<;>obtain⟨rfl,rfl⟩:=hx
     ·rw[if_pos hid];exact hQ β1 I1 w1 a1 e1 e2 e4 e5
     ·rw[if_neg hid];exact hQ β1 I1 w1 a1 e1 e2 e4 e5
    ·rename_i hne;have hk1:=dB E M _ _ _ _ hx;refine wp_block (chain hF1 hx (fun h=>h) (fun β1 I1 w1 a1 e1 e2 e3 e4 e5 => ?_));rw[hk1.base]at e2 e4;cases o with
     | norm=>exact hQ β1 I1 w1 a1 e1 e2 e4 e5
     | exit id'=>exact absurd hx (hne _ _)
     | ret=>exact hQ β1 I1 w1 a1 e1 e2 e4 e5
   ·cases hc
  case loop c1 =>
   split at hc
   ·rename_i F1 hF1;cases hc
    -- rounds,by fuel
    have rounds:∀ K,K<=M+1->∀ (st1:St) (β1:Map) (I1:Nat->Prop) (w1:World) (a1:Act),exec E K (.loop F1) st1=some (o,st')->st1.base.length=st.base.length->Ext E.mn β β1 I I1 Wr w w1 ->
      aB σ st1.base.length β1 I1 Wr wd (st1.base++st1.loc) w1->dm E σ I1 w1->aR σ β1 I1 w1 st1.base.length cx st1.vars [] [] a1->a1.defers=a.defers->Code.rounds P c1 Q K a1 w1:=by
     intro K
     induction K with
     | zero=>intro _ st1 β1 I1 w1 a1 h1;simp[exec]at h1
     | succ K ihK =>
      intro hK st1 β1 I1 w1 a1 h1 h2 h3 h4 h5 h6 h7;have hE:DX P E σ K:=rP hm hB K (fun M' h=>hrec M' (by omega)) K (Nat.le_refl _);simp only[exec]at h1;rw[rounds_succ];split at h1
      ·rename_i st2 hx1;have hk2:=dB E K _ _ _ _ h1;have hk1:=dB E K _ _ _ _ hx1;refine hE cx aY c1 F1 hF1 st1 _ st2 hx1 Wr wd β1 I1 w1 a1 _ ?_ h4 h5 h6 (fun β' I' w' a' e1 e2 e3 e4 => ?_)
       ·rw[h2];exact hmw.back hk2.aQ
       ·exact ihK (by omega) st2 β' I' w' a' h1 (hk1.base.trans h2) (h3.trans e1) (by rw[hk1.base];exact e2) (h5.mono e1.im e1.eB) (by rw[hk1.base];exact e3) (e4.trans h7)
      ·rename_i hne;refine hE cx aY c1 F1 hF1 st1 _ st' h1 Wr wd β1 I1 w1 a1 _ (by rw[h2];exact hmw) h4 h5 h6 (fun β' I' w' a' e1 e2 e3 e4 => ?_);rw[h2]at e2 e3;cases o with
       | norm=>exact absurd h1 (hne _)
       | exit id'=>exact hQ β' I' w' a' (h3.trans e1) e2 e3 (e4.trans h7)
       | ret=>exact hQ β' I' w' a' (h3.trans e1) e2 e3 (e4.trans h7)
    exact wp_loop_rounds (M+1) (rounds (M+1) (Nat.le_refl _) st β I w a hx rfl (Ext.refl _ _ _ _) hS hG hT rfl)
   ·cases hc
  case exit id =>
   cases hc;simp only[exec,Option.some.injEq,Prod.mk.injEq]at hx;obtain⟨rfl,rfl⟩:=hx;exact wp_exit (hQ β I w a (Ext.refl _ _ _ _) hS hT rfl)
  case ret =>
   cases hc;simp only[exec,Option.some.injEq,Prod.mk.injEq]at hx;obtain⟨rfl,rfl⟩:=hx;exact wp_ret (hQ β I w a (Ext.refl _ _ _ _) hS hT rfl)
  all_goals cases hc
end exec
end
section
def mf (P:Program)(E:Env)(σ:Nat->Option FuncId):Prop :=
 ∀ g F,E.fn g=some F->∀ f,σ g=some f->∃ fn cx,P.funcs[f]?=some fn/\mH P cx fn=some F/\∀ f' g',cx.gid f'=some g'->σ g'=some f'
def iK (P:Program)(E:Env)(σ:Nat->Option FuncId):Prop :=
 (∀ g p,E.iY g=some p->∀ args ds v,lT args=some ds->p ds=some v->oQ P E σ g args [] (.d v,none)) /\
 ∀ g p,E.iA g=some p->∀ args B r,p args B=some r->oQ P E σ g args B r
theorem Gj {P:Program}{w:World}{α β:Type}{g:α->Sem β}:∀ {l:List α} {vs:List β},vs.length=l.length->(∀ (i:Nat) (x:α) (v:β),l[i]?=some x->vs[i]?=some v->(g x).run P w=.ok v w)->(l.mapM g).run P w=.ok vs w
 | [],[],_,_=>rfl
 | [],_::_,h,_=>by simp at h
 | _::_,[],h,_=>by simp at h
 | x::l,v::vs,h,hg=>by
  rw[List.mapM_cons];have h1:=hg 0 x v rfl rfl;have h2:=Gj (g:=g) (l:=l) (vs:=vs) (by simpa using h) (fun i y u hy hu=>hg (i+1) y u (by simpa using hy) (by simpa using hu));simp only[Sem.run_bind,h1,Result.andThen_ok,h2,Sem.run_pure]
def kP (vs:List Value):Value:=match vs with
 | [v]=>v
 | vs=>.tuple vs.toArray
section top
variable {P:Program} {E:Env} {σ:Nat->Option FuncId}
def Kk (P:Program)(tmps:Array Value)(w:World)(rv:ResultVar)(v:Value):Prop :=
 match rv with
 | .tmp t=>v=tmps.getD t undef
 | .cell t ty=>∃ ad,tmps.getD t undef=.pointer (some ad)/\(loadVar ty ad).run P w=.ok v w
theorem wo {fn:Func}{tmps:Array Value}{w:World}{vs:List Value}(hl:vs.length=fn.results.toList.length)(h:∀ (i:Nat) (rv:ResultVar) (v:Value),fn.results.toList[i]?=some rv->vs[i]?=some v->Kk P tmps w rv v) :
  (results fn tmps).run P w=.ok (kP vs) w:=by
 unfold results;rw[Array.mapM_eq_mapM_toList];simp only[Sem.run_bind,Sem.run_map,Sem.run_pure];rw[Gj hl (fun i rv v h1 h2 => ?_)]
 ·simp only[Result.andThen_ok]
  congr 1
  match vs with
  | []=>rfl
  | [v]=>rfl
  | _::_::_=>simp[kP]
 ·have:=h i rv v h1 h2;cases rv with
  | tmp t=>simp only[Kk]at this;subst this;rfl
  | cell t ty =>
   obtain⟨ad,h3,h4⟩:=this;simp only[h3,asAddr,Sem.run_bind,Sem.run_pure,Result.andThen_ok];exact h4
theorem tO {cx:Cx}{β:Map}{I Wr wd:Nat->Prop}{w:World}{st:St}{a:Act}(hS:aB σ st.base.length β I Wr wd (st.base++st.loc) w)(hT:aR σ β I w st.base.length cx st.vars [] [] a) :
  ∀ {l:List ResultVar} {rs:List Res} {xs:List FV},lF P cx l=some rs->qO st rs=some xs ->
   ∃ vs:List Value,vs.length=l.length/\(∀ (i:Nat) (rv:ResultVar) (v:Value),l[i]?=some rv->vs[i]?=some v->Kk P a.tmps w rv v)/\fD σ β I w st.base.length xs vs
 | [],rs,xs,hc,hv=>by
  simp[lF]at hc;subst hc;simp[qO]at hv;subst hv;exact⟨[],rfl,fun i rv v h=>by simp at h,rfl,fun i c x h=>by simp at h⟩
 | .tmp t::l,rs,xs,hc,hv=>by
  simp only[lF]at hc;split at hc<;>simp at hc;subst hc;rename_i j s hj hs;simp only[qO]at hv;split at hv<;>simp at hv;subst hv;rename_i y ys hy hys;obtain⟨vs,g1,g2,g3⟩:=tO hS hT hs hys;simp only[RZ]at hy;have hr:=hT.var j t y (lQ hj) (dY _) hy;refine⟨a.tmps.getD t undef::vs,by simp[g1],fun i rv v h1 h2 => ?_,by simp[g3.1],fun i c x h1 h2 => ?_⟩
  ·cases i with
   | zero=>simp at h1 h2;subst h1;subst h2;simp[Kk]
   | succ i=>exact g2 i rv v (by simpa using h1) (by simpa using h2)
  ·cases i with
   | zero =>
    simp only[List.getElem?_cons_zero,Option.some.injEq]at h1 h2;subst h1;subst h2;exact hr
   | succ i=>exact g3.2 i c x (by simpa using h1) (by simpa using h2)
 | .cell t ty::l,rs,xs,hc,hv=>by
  simp only[lF]at hc;split at hc<;>simp at hc;subst hc;rename_i j g m s hj hg hm hs;simp only[qO]at hv;split at hv<;>simp at hv;subst hv;rename_i y ys hy hys;obtain⟨vs,g1,g2,g3⟩:=tO hS hT hs hys;simp only[RZ]at hy;split at hy
  ·rename_i q off hq;split at hy
   ·rename_i cs MC;have hr:=hT.var j t _ (lQ hj) (dY _) hq;generalize hz:a.eval (.tmp t)=z at hr;cases hr with
    | @r _ _ b bo cap hβ =>
     rw[St.eH]at MC;obtain⟨rfl,c,e,h1,h2,h3⟩:=hS.box _ cs b bo cap MC hβ;obtain⟨v,h4,h5⟩:=F7 hg hm h1 h2 h3 hy;refine⟨v::vs,by simp[g1],fun i rv u h6 h7 => ?_,by simp[g3.1],fun i c x h6 h7 => ?_⟩
     ·cases i with
      | zero =>
       simp only[List.getElem?_cons_zero,Option.some.injEq]at h6 h7;subst h6;subst h7;exact⟨_,hz,by simpa using h4⟩
      | succ i=>exact g2 i rv u (by simpa using h6) (by simpa using h7)
     ·cases i with
      | zero =>
       simp only[List.getElem?_cons_zero,Option.some.injEq]at h6 h7;subst h6;subst h7;exact h5
      | succ i=>exact g3.2 i c x (by simpa using h6) (by simpa using h7)
   ·cases hy
  ·cases hy
theorem qK {β:Map}{I:Nat->Prop}{w:World}{n:Nat}{ys:List FV}{vs:List Value}(h:fD σ β I w n ys vs):aC σ β I w n (oneOf ys) (kP vs):=by
 match ys,vs,h with
 | [y],[v],h=>exact h.2 0 y v rfl rfl
 | [],[],h=>exact aC.jb (cs:=[]) (vs:=#[]) rfl (fun i c x h=>by simp at h)
 | _::_::_,_::_::_,h =>
  simp only[oneOf,kP];exact aC.jb (by simpa using h.1) (fun i c x h1 h2=>h.2 i c x h1 (by simpa using h2))
 | [],_::_,h=>exact absurd h.1 (by simp)
 | [_],[],h=>exact absurd h.1 (by simp)
 | [_],_::_::_,h=>exact absurd h.1 (by simp)
 | _::_::_,[],h=>exact absurd h.1 (by simp)
 | _::_::_,[_],h=>exact absurd h.1 (by simp)
theorem nU {N:Nat}(hE:DX P E σ N){f:FuncId}{fn:Func}{cx:Cx}{F:ai}(hf:P.funcs[f]?=some fn)(hc:mH P cx fn=some F)(aY:∀ f' g',cx.gid f'=some g'->σ g'=some f'){args:List FV}{B:List ae}
  (X6:args.length=F.np) {o:Out} {st':St} (hx:exec E N F.body {vars:=args++List.replicate (F.nv-F.np) .u,base:=B,loc:=[],aQ:=false}=some (o,st')) (ho:∀ id,o≠.exit id) {xs:List FV} (hres:qO st' F.res=some xs)
  {Wr wd:Nat->Prop} {β:Map} {I:Nat->Prop} {w:World} {aU:Array Value} (hmw:ig B.length st' wd) (hS:aB σ B.length β I Wr wd B w) (hA:fD σ β I w B.length args aU.toList) (hG:dm E σ I w) {R:Ending->World->Prop}
  (hR:∀ β' I' w' vs,Ext E.mn β β' I I' Wr w w'->aB σ st'.base.length β' I' Wr wd (st'.base++st'.loc) w'->fD σ β' I' w' st'.base.length xs vs->R (.returned (kP vs)) w') :
  Calls P f aU w R:=by
 unfold mH at hc;split at hc
 ·cases hc
 ·rename_i c hb;split at hc
  ·rename_i b rs hcb hcr;simp only at hc;split at hc<;>simp only[Option.some.injEq,reduceCtorEq]at hc;subst hc;rename_i hh;obtain⟨h1,h2,h3,h4⟩:=hh;have hvs:aU.size=fn.params.size+fn.nfree:=by
    have:=hA.1;simp only[Array.length_toList]at this;rw[this];exact X6
   simp only at X6 hx;have hlt:∀ j,j<fn.params.size+fn.nfree->cx.vars[j]?=some j:=by
    intro j hj;have h5:(cx.vars.take (fn.params.size+fn.nfree))[j]?=some j:=by rw[h1,List.getElem?_range hj]
    rw[List.getElem?_take,if_pos hj]at h5;exact h5
   have hle:fn.params.size+fn.nfree<=fn.ntmps:=by
    rcases Nat.eq_zero_or_pos (fn.params.size+fn.nfree) with h0|h0
    ·omega
    ·have h5:=hlt (fn.params.size+fn.nfree-1) (by omega);have h6:fn.params.size+fn.nfree-1<cx.ntmps:=by simpa using List.all_eq_true.1 h4 _ (List.mem_of_getElem? h5)
     rw[h3]at h6;omega
   refine calls_of_wp hf hb ?_;have hk:=dB E N _ _ _ _ hx;refine hE cx aY c b hcb _ o st' hx Wr wd β I w _ _ hmw (by simpa using hS) hG ⟨?_,fun j t y h5 _ h6 => ?_,fun t j y h5=>by rw[dY]at h5;cases h5⟩ (fun β' I' w' a' e1 e2 e3 e4 => ?_)
   ·simp only[Array.size_append,Array.size_replicate];omega
   ·rcases Nat.lt_or_ge j (fn.params.size+fn.nfree) with hj|hj
    ·rw[hlt j hj]at h5;cases h5;rw[List.getElem?_append_left (by omega)]at h6;have h7:aU.toList[j]?=some (aU[j]'(by omega)):=by rw[Array.getElem?_toList,Array.getElem?_eq_getElem (by omega)]
     have h8:=hA.2 j y _ h6 h7;have h9:(Act.eval {tmps:=aU++Array.replicate (fn.ntmps-aU.size) undef,defers:=[]} (.tmp j))=aU[j]'(by omega):=by
      simp only[Act.eval,Array.getD_eq_getD_getElem?];rw[Array.getElem?_append_left (by omega),Array.getElem?_eq_getElem (by omega)];rfl
     rw[h9];exact h8
    ·rw[List.getElem?_append_right (by omega),List.getElem?_replicate]at h6;split at h6
     ·cases h6;exact .u _
     ·cases h6
   ·rw[<-hk.base]at e2 e3;obtain⟨vs,g1,g2,g3⟩:=tO (P:=P) e2 e3 hcr hres;have hend:a'.defers=[]/\∃ v,(results fn a'.tmps).run P w'=.ok v w'/\R (.returned v) w':=⟨e4,_,wo g1 g2,hR β' I' w' vs e1 e2 g3⟩
    cases o with
    | norm=>exact hend
    | ret=>exact hend
    | exit id=>exact absurd rfl (ho id)
  ·cases hc
theorem Jf {F:ai}{st:St}{r:FV × Option (List ae)}(h:finish F st=some r):∃ xs,qO st F.res=some xs/\((F.ref=true/\r=jU (oneOf xs) st)\/∃ ys,iE st xs=some ys/\r=jU (oneOf ys) (aI st (xs.flatMap FV.rows))):=by
 unfold finish at h;split at h
 ·cases h
 ·rename_i xs hxs;split at h
  ·rename_i hF;cases h;exact⟨xs,hxs,.inl ⟨hF,rfl⟩⟩
  ·split at h
   ·cases h
   ·rename_i ys hys;cases h;exact⟨xs,hxs,.inr ⟨ys,hys,rfl⟩⟩
theorem Jg (hF:mf P E σ)(hP:iK P E σ){N:Nat}(hE:DX P E σ N):iV P E σ (MQ E N):=by
 intro g args B r hr;have X7:Given E g:=by
  have hr:=hr;unfold MQ enter at hr;split at hr
  ·rename_i p hp;exact .inr (.inl (by rw[hp];rfl))
  ·split at hr
   ·split at hr
    ·rename_i p hp;exact .inr (.inr (by rw[hp];rfl))
    ·cases hr
   ·rename_i F hFn;exact .inl (by rw[hFn];rfl)
 refine⟨X7,?_⟩;unfold MQ enter at hr;split at hr
 ·rename_i p hp;split at hr
  ·rename_i ds hds;split at hr
   ·rename_i v hv;cases hr;exact hP.1 g p hp args ds v hds hv
   ·cases hr
  ·cases hr
 ·split at hr
  ·split at hr
   ·rename_i p hp;split at hr
    ·rename_i v B' hpv;split at hr
     ·cases hr;exact hP.2 g p hp args B _ hpv
     ·cases hr
    ·exact hP.2 g p hp args B _ hr
   ·cases hr
  ·rename_i F hFn;split at hr
   ·rename_i X6;split at hr
    ·cases hr
    ·rename_i o st' hne hx;have ho:∀ id,o≠.exit id:=fun id e=>hne id e
     obtain⟨xs,h1,h3⟩:=Jf hr;have hk:=dB E N _ _ _ _ hx;rcases h3 with ⟨_,h3⟩|⟨ys,h2,h3⟩
     ·unfold jU at h3;split at h3
      ·rename_i Gu;simp only[Bool.and_eq_true,Bool.not_eq_true']at Gu;subst h3;intro f hσ β I w aU hS hA hG;obtain⟨fn,cx,hf,hc,aY⟩:=hF g F hFn f hσ;refine nU hE hf hc aY X6 hx ho h1 ⟨fun k h=>h,fun hd=>by rw[Gu.2]at hd;cases hd⟩ hS hA hG (fun β' I' w' vs e1 e2 e3 => ?_);have hl:=qK e3;obtain⟨z,hz⟩:∃ z,oneOf xs=.d z:=by
        cases hy:oneOf xs<;>rw[hy]at Gu<;>simp[ry]at Gu;exact⟨_,rfl⟩
       rw[hz]at hl;cases hl with
       | d hl=>exact⟨kP vs,z,I',rfl,hz,hl,e1.im,fun b hb=>e1.gG b hb,e2.jc,e1.size,fun b hb=>e1.keepW b hb (by omega),e1.os,e1.tape,e1.output,e1.drawn⟩
      ·subst h3;intro f hσ β I Wr w aU hS hA hG;obtain⟨fn,cx,hf,hc,aY⟩:=hF g F hFn f hσ;refine nU hE hf hc aY X6 hx ho h1 ⟨fun _ _=>trivial,fun _ _=>trivial⟩ hS hA hG (fun β' I' w' vs e1 e2 e3 => ?_);have hl:=qK e3;refine⟨kP vs,β',I',rfl,e1,fun n' wd' => ?_,fun n'=>hl.ag n'⟩;exact e2.old e2.ja (fun k o' b bo cap h4 h5 _=>(e2.wr k o' b bo cap h4 h5).1 trivial)
     have hkf:=Kept.aI (xs.flatMap FV.rows) st';unfold jU at h3;split at h3
     ·rename_i Gu;simp only[Bool.and_eq_true,Bool.not_eq_true']at Gu;subst h3;intro f hσ β I w aU hS hA hG;obtain⟨fn,cx,hf,hc,aY⟩:=hF g F hFn f hσ;have hnd:st'.aQ=false:=by
       cases hd:st'.aQ with
       | false=>rfl
       | true=>rw[hkf.aQ hd]at Gu;exact absurd Gu.2 (by simp)
      refine nU hE hf hc aY X6 hx ho h1 ⟨fun k h=>h,fun hd=>by rw[hnd]at hd;cases hd⟩ hS hA hG (fun β' I' w' vs e1 e2 e3 => ?_);obtain⟨I1,hfz⟩:=il (xs.flatMap FV.rows) e2;have hl:=qK (gP e2 h2 e3 hfz.im (hfz.DL e2));obtain⟨z,hz⟩:∃ z,oneOf ys=.d z:=by
       cases hy:oneOf ys<;>rw[hy]at Gu<;>simp[ry]at Gu;exact⟨_,rfl⟩
      rw[hz]at hl;cases hl with
      | d hl =>
       refine⟨kP vs,z,I1,rfl,hz,hl,fun b hb=>hfz.im b (e1.im b hb),fun b hb => ?_,hfz.oz.jc,e1.size,fun b hb=>e1.keepW b hb (by omega),e1.os,e1.tape,e1.output,e1.drawn⟩;rcases hfz.gG b hb with h|⟨k,o',bo,cap,h4,h5,h6⟩
       ·exact e1.gG b h
       ·rcases h6 with h6|h6
        ·rw[h6]at Gu;exact absurd Gu.2 (by simp)
        ·exact .inr ((e2.wr k o' b bo cap h4 h5).1 (by rw[hk.base]at h6;exact h6))
     ·subst h3;intro f hσ β I Wr w aU hS hA hG;obtain⟨fn,cx,hf,hc,aY⟩:=hF g F hFn f hσ;refine nU hE hf hc aY X6 hx ho h1 ⟨fun _ _=>trivial,fun _ _=>trivial⟩ hS hA hG (fun β' I' w' vs e1 e2 e3 => ?_);obtain⟨I1,hfz⟩:=il (xs.flatMap FV.rows) e2;have hl:=qK (gP e2 h2 e3 hfz.im (hfz.DL e2));refine⟨kP vs,β',I1,rfl,?_,fun n' wd' => ?_,fun n' => ?_⟩
      ·refine⟨e1.bm,fun b hb=>hfz.im b (e1.im b hb),fun b hb => ?_,e1.size,e1.eB,e1.keepW,e1.os,e1.tape,e1.output,e1.drawn⟩;rcases hfz.gG b hb with h|⟨k,o',bo,cap,h4,h5,_⟩
       ·exact e1.gG b h
       ·exact .inr ((e2.wr k o' b bo cap h4 h5).1 trivial)
      ·rw[hkf.base];exact hfz.oz.old hfz.oz.ja (fun k o' b bo cap h4 h5 _=>(hfz.oz.wr k o' b bo cap h4 h5).1 trivial)
      ·rw[hkf.base];exact hl.ag n'
    ·cases hr
   ·cases hr
theorem yV (hm:P.follows .mixedOrders=true)(hB:Bodies P E σ)(hF:mf P E σ)(hP:iK P E σ)(N:Nat):iV P E σ (MQ E N):=by
 induction N using Nat.strongRecOn with
 | ind N ih=>exact Jg hF hP (rP hm hB N ih N (Nat.le_refl _))
theorem Bp (hm:P.follows .mixedOrders=true)(hB:Bodies P E σ)(hF:mf P E σ)(hP:iK P E σ){N g:Nat}{args:List FV}{y:FV}(h:bX E N g args []=some (y,none)){f:FuncId}(hσ:σ g=some f)
  {I:Nat->Prop} {w:World} {aU:Array Value} (hI:∀ b,I b->b<w.heap.size) (hA:fD σ (fun _ _=>none) I w 0 args aU.toList) (hG:dm E σ I w) :
  Calls P f aU w fun e w'=>∃ x z I',e=.returned x/\y=.d z/\aV σ I' w' z x/\Grow E.mn I I' w w' :=
 (yV hm hB hF hP N g args [] _ h).2 f hσ _ I w aU (.empty _ hI (fun _ h=>h)) hA hG
end top
end
def sg (n:Nat)(g:Nat):Option Nat:=bif Nat.blt g n then some g else none
def Kl (P:Program)(n:Nat)(no:List Nat):Bool :=
 (List.range n).all fun g=>(no.any fun k=>Nat.beq g k)||match P.funcs[g]? with
  | some fn => fn.body.isSome && !(fn.name == "runtime.NumGoroutine")
  | none=>false
def mR (E:Env)(no:List Nat):Bool:=no.all fun g=>(E.fn g).isNone&&(E.iY g).isNone&&(E.iA g).isNone
theorem iL {n:Nat}{g f:Nat}(h:sg n g=some f):f=g/\g<n:=by
 unfold sg at h;cases hb:Nat.blt g n with
 | false=>rw[hb]at h;cases h
 | true=>rw[hb]at h;simp only[cond_true,Option.some.injEq]at h;exact⟨h.symm,Nat.le_of_ble_eq_true hb⟩
theorem MR {P:Program}{E:Env}{n:Nat}{no:List Nat}(h:Kl P n no=true)(h2:mR E no=true):Bodies P E (sg n):=by
 intro g f hg hf;obtain⟨rfl,hlt⟩:=iL hf;have h3:=List.all_eq_true.1 h f (List.mem_range.2 hlt);have hno:(no.any fun k=>Nat.beq f k)=false:=by
  cases ha:no.any fun k=>Nat.beq f k with
  | false=>rfl
  | true =>
   obtain⟨k,hk,he⟩:=List.any_eq_true.1 ha;have:=Nat.eq_of_beq_eq_true he;subst this;have h4:=List.all_eq_true.1 h2 f hk;simp only[Bool.and_eq_true,Option.isNone_iff_eq_none]at h4;rcases hg with hg|hg|hg
   ·rw[h4.1.1]at hg;cases hg
   ·rw[h4.1.2]at hg;cases hg
   ·rw[h4.2]at hg;cases hg
 rw[hno,Bool.false_or]at h3;split at h3
 ·rename_i fn hfn;simp only[Bool.and_eq_true,Bool.not_eq_true']at h3;obtain⟨c,hc⟩:=Option.isSome_iff_exists.1 h3.1;exact⟨fn,c,hfn,hc,h3.2⟩
 ·cases h3
theorem agr {c:Bool}{A B:Option ai}{F:ai}{Q:Prop}(hA:A=some F->Q)(hB:B=some F->Q):(bif c then A else B)=some F->Q:=by
 cases c
 ·exact hB
 ·exact hA
theorem adr {g k:Nat}{fk F:ai}{Q:Prop}(h:g=k->fk=F->Q):(bif Nat.beq g k then some fk else none)=some F->Q:=by
 intro hb;cases hc:Nat.beq g k with
 | false=>rw[hc]at hb;cases hb
 | true =>
  rw[hc]at hb;simp only[cond_true,Option.some.injEq]at hb;exact h (Nat.eq_of_beq_eq_true hc) hb
theorem fok {P:Program}{n:Nat}{g k:Nat}{F fk:ai}{cx:Cx}{fn:Func}(hg:g=k)(hF:fk=F)(hk:mH P cx fn=some fk)(hf:P.funcs[k]?=some fn)(hc:cx.gid=sg n) :
  ∀ f,sg n g=some f->∃ fn cx,P.funcs[f]?=some fn/\mH P cx fn=some F/\∀ f' g',cx.gid f'=some g'->sg n g'=some f':=by
 intro f h;subst hg;subst hF;obtain⟨rfl,_⟩:=iL h;refine⟨fn,cx,hf,hk,fun f' g' h' => ?_⟩;rw[hc]at h';obtain⟨rfl,hh⟩:=iL h';exact h'
def yes (r:bz):Bool:=match r with
 | some (.d (.v (.bool b)),none)=>b
 | _=>false
theorem X8 {r:bz}(h:yes r=true):r=some (.d (.v (.bool true)),none):=by
 unfold yes at h;split at h
 ·subst h;rfl
 ·cases h
section
theorem Cf (k:IntKind)(a b:Int):∃ z:Int,z=k.wrap (BitVec.ofInt k.bits a ||| BitVec.ofInt k.bits b).toNat:=⟨_,rfl⟩
theorem Af (k:IntKind)(a b:Int):∃ z:Int,z=k.wrap (BitVec.ofInt k.bits a &&& BitVec.ofInt k.bits b).toNat:=⟨_,rfl⟩
theorem Ag (k:IntKind)(a b:Int):∃ z:Int,z=k.wrap (BitVec.ofInt k.bits a ^^^ BitVec.ofInt k.bits b).toNat:=⟨_,rfl⟩
theorem Ah (k:IntKind)(a b:Int):∃ z:Int,z=k.wrap (a*2 ^ (min b.toNat k.bits)):=⟨_,rfl⟩
noncomputable def GD (k:IntKind) (a b:Int):Int:=Classical.choose (Ah k a b)
theorem w_ (k:IntKind)(a b:Int):GD k a b=k.wrap (a*2 ^ (min b.toNat k.bits)):=Classical.choose_spec (Ah k a b)
noncomputable def GG (k:IntKind) (a b:Int):Int:=Classical.choose (Cf k a b)
noncomputable def CX (k:IntKind) (a b:Int):Int:=Classical.choose (Af k a b)
noncomputable def X9 (k:IntKind) (a b:Int):Int:=Classical.choose (Ag k a b)
theorem uQ (k:IntKind)(a b:Int):GG k a b=k.wrap (BitVec.ofInt k.bits a ||| BitVec.ofInt k.bits b).toNat:=Classical.choose_spec (Cf k a b)
theorem CY (k:IntKind)(a b:Int):CX k a b=k.wrap (BitVec.ofInt k.bits a &&& BitVec.ofInt k.bits b).toNat:=Classical.choose_spec (Af k a b)
theorem UT (k:IntKind)(a b:Int):X9 k a b=k.wrap (BitVec.ofInt k.bits a ^^^ BitVec.ofInt k.bits b).toNat:=Classical.choose_spec (Ag k a b)
section
variable {k k':IntKind} {a b:Int}
theorem aaM:fI .add (.int k a) (.int k b)=some (.int k (k.wrap (a+b))):=by simp[fI]
theorem aaN:fI .sub (.int k a) (.int k b)=some (.int k (k.wrap (a-b))):=by simp[fI]
theorem aaO:fI .mul (.int k a) (.int k b)=some (.int k (k.wrap (a*b))):=by simp[fI]
theorem aaP:fI .quo (.int k a) (.int k b)=if b=0 then none else some (.int k (k.wrap (a.tdiv b))):=by simp[fI]
theorem aaQ:fI .rem (.int k a) (.int k b)=if b=0 then none else some (.int k (a.tmod b)):=by simp[fI]
theorem ads:fI .or (.int k a) (.int k b)=some (.int k (GG k a b)):=by simp[fI,uQ]
theorem aaR:fI .and (.int k a) (.int k b)=some (.int k (CX k a b)):=by simp[fI,CY]
theorem aaS:fI .xor (.int k a) (.int k b)=some (.int k (X9 k a b)):=by simp[fI,UT]
theorem aaT:fI .shl (.int k a) (.int k' b)=if b<0 then none else some (.int k (GD k a b)):=by simp[fI,w_]
theorem aaU:fI .shr (.int k a) (.int k' b)=if b<0 then none else some (.int k (a.fdiv (2 ^ (min b.toNat k.bits)))):=by simp[fI]
theorem aaV:fI .eql (.int k a) (.int k b)=some (.bool (a==b)):=by simp[fI]
theorem aaW:fI .neq (.int k a) (.int k b)=some (.bool (a != b)):=by simp[fI]
theorem aaX:fI .lss (.int k a) (.int k b)=some (.bool (decide (a<b))):=by simp[fI]
theorem aaY:fI .leq (.int k a) (.int k b)=some (.bool (decide (a<=b))):=by simp[fI]
theorem aaZ:fI .gtr (.int k a) (.int k b)=some (.bool (decide (b<a))):=by simp[fI]
theorem aa0:fI .geq (.int k a) (.int k b)=some (.bool (decide (b<=a))):=by simp[fI]
end
end
section
section eqs
variable {E:Env} {n:Nat} {st:St}
theorem uG {a b : aD} : exec E (n + 1) (.seq a b) st = match exec E n a st with
      | some (.norm, st') => exec E n b st'
      | r => r := rfl
theorem Cg {x : Arg} {a b : aD} : exec E (n + 1) (.cond x a b) st = match dC E st [] x with
      | some (.d (.v (.bool t))) => exec E n (if t then a else b) st
      | _ => none := rfl
theorem kZ {id : Nat} {b : aD} : exec E (n + 1) (.block id b) st = match exec E n b st with
      | some (.exit id', st') => if id' = id then some (.norm, st') else some (.exit id', st')
      | r => r := rfl
theorem qL {b : aD} : exec E (n + 1) (.loop b) st = match exec E n b st with
      | some (.norm, st') => exec E n (.loop b) st'
      | r => r := rfl
theorem wT {ops:List eT}{outs apart:List (Nat × Nat)}:exec E (n+1) (.region ops outs apart) st =
  if jr st apart then(match dE E (bX E n) ops st [] with
   | some (st',env)=>some (.norm,{st' with vars:=gY st'.vars env outs})
   | none=>none) else none:=rfl
theorem Dm {g:Nat}{F:ai}{args:List FV}{B:List ae}(hp:E.iY g=none)(hf:E.fn g=some F)(hl:args.length=F.np) :
  bX E n g args B=match exec E n F.body {vars:=args++List.replicate (F.nv-F.np) .u,base:=B,loc:=[],aQ:=false} with
    | some (.exit _,_)=>none
    | some (_,st')=>finish F st'
    | none=>none:=by
 unfold bX enter;rw[hp,hf];simp only[hl,if_true];rfl
theorem Jh {g:Nat}{p:List FV->List ae->bz}{args:List FV}{B:List ae}(hp:E.iY g=none)(hf:E.fn g=none)(hB:E.iA g=some p) :
  bX E n g args B=match p args B with
    | some (v,some B')=>if B.length<=B'.length then some (v,some B') else none
    | r=>r:=by
 unfold bX enter;simp only[hp,hf,hB];rfl
end eqs
def Le (r r':Nat->List FV->List ae->bz):Prop:=∀ g args B x,r g args B=some x->r' g args B=some x
section mono
variable {E:Env} {r r':Nat->List FV->List ae->bz}
theorem rf (h:Le r r'){draw:Bool}{st:St}{g:Nat}{xs:List FV}{rows:List Ref}{z:FV × St}(hz:dK r draw st g xs rows=some z):dK r' draw st g xs rows=some z:=by
 unfold dK at hz ⊢;cases hr:r g xs [] with
 | none=>rw[hr]at hz;cases hz
 | some x=>rw[h _ _ _ _ hr];rw[hr]at hz;exact hz
theorem rq (h:Le r r'){draw:Bool}{st:St}{g:Nat}{xs:List FV}{rows:List Ref}{z:FV × St}(hz:bT r draw st g xs rows=some z):bT r' draw st g xs rows=some z:=by
 unfold bT at hz ⊢;cases hr:r g (FV.aK st.base.length xs) (((aI st rows).base++(aI st rows).loc).map (ae.ag st.base.length)) with
 | none=>rw[hr]at hz;cases hz
 | some x=>rw[h _ _ _ _ hr];rw[hr]at hz;exact hz
theorem p_ (h:Le r r'){draw:Bool}{st:St}{g:Nat}{args:List FV}{z:FV × St}(hz:fe r draw st g args=some z):fe r' draw st g args=some z:=by
 unfold fe at hz ⊢;split at hz
 ·cases hz
 ·split at hz
  ·rename_i hc;rw[if_pos hc];exact rf h hz
  ·rename_i hc;rw[if_neg hc];exact rq h hz
theorem ru (h:Le r r'){st:St}{g:Nat}{args:List FV}{z:FV × St}(hz:cB E r st g args=some z):cB E r' st g args=some z:=by
 unfold cB at hz ⊢;split at hz
 ·cases hz
 ·rename_i xs hl;split at hz
  ·rename_i hr;rw[if_pos hr];split at hz
   ·rename_i hc;rw[if_pos hc];exact rf h hz
   ·rename_i hc;rw[if_neg hc];cases hq:r g (FV.aK st.base.length xs) ((st.base++st.loc).map (ae.ag st.base.length)) with
    | none=>rw[hq]at hz;cases hz
    | some x=>rw[h _ _ _ _ hq];rw[hq]at hz;exact hz
  ·cases hz
theorem MS (h:Le r r'){draw:Bool}{st:St}{env:List FV}{k:K}{z:FV × St}(hz:runK E r draw st env k=some z):runK E r' draw st env k=some z:=by
 cases k with
 | call g args =>
  simp only[runK]at hz ⊢;split at hz
  ·exact p_ h hz
  ·cases hz
 | dV f args =>
  simp only[runK]at hz ⊢;split at hz
  ·exact p_ h hz
  ·exact p_ h hz
  ·cases hz
 | mh g args =>
  simp only[runK]at hz ⊢;split at hz
  ·exact rq h hz
  ·cases hz
 | jJ f args ps =>
  simp only[runK]at hz ⊢;split at hz
  ·rename_i hp;rw[if_pos hp];split at hz
   ·exact ru h hz
   ·exact ru h hz
   ·cases hz
  ·cases hz
 | _=>exact hz
theorem lS (h:Le r r'):∀ {ops:List eT} {st:St} {env:List FV} {z:St × List FV},dE E r ops st env=some z->dE E r' ops st env=some z
 | [],st,env,z,hz=>hz
 | o::rest,st,env,z,hz=>by
  unfold dE at hz ⊢;split at hz
  ·cases hz
  ·exact lS h hz
  ·rename_i hg;split at hz
   ·cases hz
   ·rename_i v st' hk;rw[MS h hk];exact lS h hz
theorem Ai:∀ (n:Nat) (c:aD) (st:St) (z:Out × St),exec E n c st=some z->exec E (n+1) c st=some z
 | 0,_,_,_,h=>by cases h
 | n+1,c,st,z,h=>by
  have ih:=Ai n;have hc:Le (bX E n) (bX E (n+1)):=by
   intro g args B x hx;unfold bX enter at hx ⊢;split at hx
   ·exact hx
   ·split at hx
    ·exact hx
    ·rename_i F hF;split at hx
     ·rename_i hl;rw[if_pos hl];generalize hi:({vars:=args++List.replicate (F.nv-F.np) FV.u,base:=B,loc:=[],aQ:=false}:St)=s0 at hx ⊢;cases he:exec E n F.body s0 with
      | none=>rw[he]at hx;cases hx
      | some z=>rw[ih _ _ _ he];rw[he]at hx;exact hx
     ·cases hx
  cases c with
  | skip=>exact h
  | ret=>exact h
  | exit id=>exact h
  | kill js=>exact h
  | region ops outs apart =>
   rw[wT]at h ⊢;split at h
   ·rename_i ha;rw[if_pos ha];split at h
    ·rename_i st' env hr;rw[lS hc hr];exact h
    ·cases h
   ·cases h
  | seq a b =>
   rw[uG]at h ⊢;cases he:exec E n a st with
   | none=>rw[he]at h;cases h
   | some x =>
    obtain⟨o,st'⟩:=x;rw[ih _ _ _ he];rw[he]at h;cases o with
    | norm=>exact ih _ _ _ h
    | exit id=>exact h
    | ret=>exact h
  | cond x a b =>
   rw[Cg]at h ⊢;split at h
   ·exact ih _ _ _ h
   ·cases h
  | block id b =>
   rw[kZ]at h ⊢;cases he:exec E n b st with
   | none=>rw[he]at h;cases h
   | some x=>rw[ih _ _ _ he];rw[he]at h;exact h
  | loop b =>
   rw[qL]at h ⊢;cases he:exec E n b st with
   | none=>rw[he]at h;cases h
   | some x =>
    obtain⟨o,st'⟩:=x;rw[ih _ _ _ he];rw[he]at h;cases o with
    | norm=>exact ih _ _ _ h
    | exit id=>exact h
    | ret=>exact h
theorem Ch {n m:Nat}{c:aD}{st:St}{z:Out × St}(h:exec E n c st=some z)(hm:n<=m):exec E m c st=some z:=by
 induction hm with
 | refl=>exact h
 | step _ ih=>exact Ai _ _ _ _ ih
theorem qi {n m g:Nat}{args:List FV}{B:List ae}{x:FV × Option (List ae)}(hx:bX E n g args B=some x)(hm:n<=m):bX E m g args B=some x:=by
 unfold bX enter at hx ⊢;split at hx
 ·exact hx
 ·split at hx
  ·exact hx
  ·rename_i F hF;split at hx
   ·rename_i hl;rw[if_pos hl];generalize hi:({vars:=args++List.replicate (F.nv-F.np) FV.u,base:=B,loc:=[],aQ:=false}:St)=s0 at hx ⊢;cases he:exec E n F.body s0 with
    | none=>rw[he]at hx;cases hx
    | some z=>rw[Ch he hm];rw[he]at hx;exact hx
   ·cases hx
end mono
def Ca (E:Env)(g:Nat)(args:List FV)(r:FV × Option (List ae)):Prop:=∃ n0,∀ n,n0<=n->bX E n g args []=some r
theorem Ca.of {E:Env}{n g:Nat}{args:List FV}{r:FV × Option (List ae)}(h:bX E n g args []=some r):Ca E g args r:=⟨n,fun _ hm=>qi h hm⟩
end
end Fi
