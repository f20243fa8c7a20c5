import Derived.Test.YtbbogkfadofneaaGreatDoorFiD
import Derived.LoopN
import Derived.KernelRfl
set_option linter.unusedVariables false
set_option linter.unusedSimpArgs false
namespace Fi
open Go
section
theorem qG {env:List FV}{aL:List (Option Tmp)}:∀ (ts:List Tmp) (i:Nat) (vars:List FV) {j:Nat},j<i->(jk vars env (mV aL ts i))[j]?=vars[j]?
 | [],i,vars,j,h=>rfl
 | t::ts,i,vars,j,h=>by
  simp only[mV];split
  ·simp only[jk];rw[qG ts (i+1) _ ae,Qd0 ae]
  ·exact qG ts (i+1) vars ae
theorem vN {env:List FV}{aL:List (Option Tmp)}:∀ (ts:List Tmp) (i:Nat) (vars:List FV) {j:Nat} {t:Tmp},i<=j->ts[j-i]?=some t ->
  (jk vars env (mV aL ts i))[j]?=match fJ aL t with|none=>vars[j]?|some j'=>(vars.set j (env.getD j' .u))[j]?
 | [],i,vars,j,t,h,ht=>by simp at ht
 | t0::ts,i,vars,j,t,h,ht=>by
  simp only[mV];rcases Q41 h with he|hl
  ·subst he;simp only[Xo1,Qv1,Qd2]at ht;subst ht;split
   ·rename_i g hg;simp only[jk,hg];exact qG ts (i+1) _ (Xz2 i)
   ·rename_i hg;simp only[hg];exact qG ts (i+1) _ (Xz2 i)
  ·have ht':ts[j-(i+1)]?=some t:=by
    rw[show j-i=(j-(i+1))+1 by omega]at ht;simpa using ht
   split
   ·simp only[jk];rw[vN ts (i+1) _ ae ht'];split
    ·rw[Qd0 ae]
    ·simp[Xv2]
   ·exact vN ts (i+1) vars ae ht'
theorem zW:∀ (js:List Nat) (vars:List FV) {j:Nat} {y:FV},(mI vars js)[j]?=some y->y=.u\/vars[j]?=some y
 | [],vars,j,y,h=>.inr h
 | i::js,vars,j,y,h=>by
  simp only[mI]at h;rcases zW js _ h with h1|h1
  ·exact .inl h1
  ·rw[Xv2]at h1;split at h1
   ·split at h1
    ·cases h1;exact .inl rfl
    ·cases h1
   ·exact .inr h1
section tmps
variable {cx:Cx} {σ:Nat->Option FuncId} {β:Map} {I:Nat->Prop} {w:World} {n:Nat} {vars:List FV} {env:List FV} {aL:List (Option Tmp)} {a:Act}
theorem bn.out (h:bn σ β I w n cx vars aL env a)(hl:env.length=aL.length):bn σ β I w n cx (jk vars env (mV aL cx.vars 0)) [] [] a:=by
 refine⟨h.size,fun j t y h1 _ h3 => ?_,fun t j y h1=>by rw[fe]at h1;cases h1⟩;rw[vN cx.vars 0 vars (Qy1 _) (by simpa using h1)]at h3;split at h3
 ·rename_i hno;exact h.var j t y h1 hno h3
 ·rename_i j' hj';rw[Xv2]at h3;simp only[if_true]at h3;split at h3
  ·cases h3;have h4:=(Qw2.1 (qB hj')).1;have h5:env[j']?=some (env.getD j' .u):=by
    rw[Qk2,Qa1 ae];rfl
   exact h.loc t j' _ hj' h5
  ·cases h3
theorem bn.kill (h:bn σ β I w n cx vars [] [] a)(js:List Nat):bn σ β I w n cx (mI vars js) [] [] a:=by
 refine⟨h.size,fun j t y h1 h2 h3 => ?_,h.loc⟩;rcases zW js vars h3 with h4|h4
 ·subst h4;exact .u _
 ·exact h.var j t y h1 h2 h4
end tmps
def C8:Out->Exit
 | .norm=>.normal
 | .exit id=>.exit id
 | .ret=>.ret
def RG (E:Env)(N:Nat):Nat->List FV->List ah->bF:=fun g args B=>enter E g args B fun F st'=>exec E N F st'
def Hu (P:Program)(E:Env)(σ:Nat->Option FuncId)(N:Nat):Prop :=
 ∀ (cx:Cx),(∀ f g,cx.gid f=some g->σ g=some f)->∀ (c:Code) (F:aF),comp P cx c=some F->∀ (st:St) (o:Out) (st':St),exec E N F st=some (o,st') ->
  ∀ (Wr wd:Nat->Prop) (β:Map) (I:Nat->Prop) (w:World) (a:Act) (Q:Exit->Act->World->Prop),jb st.base.length st' wd->aY σ st.base.length β I Wr wd (st.base++st.loc) w->dM E σ I w ->
   bn σ β I w st.base.length cx st.vars [] [] a ->
   (∀ β' I' w' a',Ext E.mn β β' I I' Wr w w'->aY σ st.base.length β' I' Wr wd (st'.base++st'.loc) w'->bn σ β' I' w' st.base.length cx st'.vars [] [] a'->a'.defers=a.defers->Q (C8 o) a' w') ->
   c.wp P Q a w
section exec
variable {P:Program} {E:Env} {σ:Nat->Option FuncId}
theorem sJ (hm:P.follows .mixedOrders=true)(hB:Bodies P E σ){N:Nat}(hrec:∀ M,M<N->jS P E σ (RG E M)){cx:Cx}(bB:∀ f g,cx.gid f=some g->σ g=some f){id:Nat}{ops:Array Oper}{draw:Bool}
  {ks:List jm} {ap:List (Nat × Nat)} (hc:kD P cx ops.toList draw=some (ks,ap)) {st st':St} {o:Out} (hx:exec E N (.region ks (mV (ops.toList.map (·.dst)) cx.vars 0) ap) st=some (o,st')) :
  o=.norm/\∀ (Wr wd:Nat->Prop) (β:Map) (I:Nat->Prop) (w:World) (a:Act) (Q:Exit->Act->World->Prop),jb st.base.length st' wd->aY σ st.base.length β I Wr wd (st.base++st.loc) w->dM E σ I w ->
   bn σ β I w st.base.length cx st.vars [] [] a ->
   (∀ β' I' w' a',Ext E.mn β β' I I' Wr w w'->aY σ st.base.length β' I' Wr wd (st'.base++st'.loc) w'->bn σ β' I' w' st.base.length cx st'.vars [] [] a'->a'.defers=a.defers->Q .normal a' w') ->
   (Code.region id ops draw).wp P Q a w:=by
 cases N with
 | zero=>simp[exec]at hx
 | succ N =>
  simp only[exec]at hx;split at hx
  ·rename_i hap;split at hx
   ·rename_i st1 ev hr;simp only[Qd2,Qm2]at hx;obtain⟨rfl,rfl⟩:=hx;refine⟨rfl,fun Wr wd β I w a Q hmw hS hG hT hQ => ?_⟩;have hk:=ll (OX E N) _ hr;refine Ht hm bB hB (OX E N) (hrec N (Xz2 N)) hc hap hr hmw hS hG hT (fun β' I' w' a' h1 h2 h3 h4 h5=>hQ β' I' w' a' h1 h2 ?_ h5);have:=h3.out (by rw[h4,Ql0]);simp only[hk.vars];exact this
   ·cases hx
  ·cases hx
theorem vg (hm:P.follows .mixedOrders=true)(hB:Bodies P E σ)(N:Nat)(hrec:∀ M,M<N->jS P E σ (RG E M)):∀ M,M<=N->Hu P E σ M:=by
 intro M
 induction M with
 | zero=>intro _ cx bB c F hc st o st' hx;simp[exec]at hx
 | succ M ih =>
  intro hMN cx bB c F hc st o st' hx Wr wd β I w a Q hmw hS hG hT hQ;have ih:=ih ae
  -- a step,and then another
  have chain:∀ {c1:Code} {F1:aF} {st1:St} {o1:Out} {Q1:Exit->Act->World->Prop},comp P cx c1=some F1->exec E M F1 st=some (o1,st1)->(st1.aS=true->st'.aS=true) ->
    (∀ β' I' w' a',Ext E.mn β β' I I' Wr w w'->aY σ st1.base.length β' I' Wr wd (st1.base++st1.loc) w'->dM E σ I' w'->bn σ β' I' w' st1.base.length cx st1.vars [] [] a'->a'.defers=a.defers->Q1 (C8 o1) a' w')->c1.wp P Q1 a w:=by
   intro c1 F1 st1 o1 Q1 h1 h2 h3 h4;have hk:=dQ E M _ _ _ _ h2;refine ih cx bB c1 F1 h1 st o1 st1 h2 Wr wd β I w a Q1 (hmw.back h3) hS hG hT (fun β' I' w' a' e1 e2 e3 e4=>h4 β' I' w' a' e1 ?_ (hG.mono e1.im e1.fo) ?_ e4)
   ·rw[hk.base];exact e2
   ·rw[hk.base];exact e3
  -- and the other
  have next:∀ {c1:Code} {F1:aF} {st1:St} {o1:Out} {Q1:Exit->Act->World->Prop} {β1:Map} {I1:Nat->Prop} {w1:World} {a1:Act},comp P cx c1=some F1->exec E M F1 st1=some (o1,st')->st1.base.length=st.base.length ->
    Ext E.mn β β1 I I1 Wr w w1->aY σ st1.base.length β1 I1 Wr wd (st1.base++st1.loc) w1->dM E σ I1 w1->bn σ β1 I1 w1 st1.base.length cx st1.vars [] [] a1->a1.defers=a.defers ->
    (∀ β' I' w' a',Ext E.mn β β' I I' Wr w w'->aY σ st.base.length β' I' Wr wd (st'.base++st'.loc) w'->bn σ β' I' w' st.base.length cx st'.vars [] [] a'->a'.defers=a.defers->Q1 (C8 o1) a' w')->c1.wp P Q1 a1 w1:=by
   intro c1 F1 st1 o1 Q1 β1 I1 w1 a1 h1 h2 h3 h4 h5 h6 h7 h8 h9;refine ih cx bB c1 F1 h1 st1 o1 st' h2 Wr wd β1 I1 w1 a1 Q1 (by rw[h3];exact hmw) h5 h6 h7 (fun β' I' w' a' e1 e2 e3 e4=>h9 β' I' w' a' (h4.trans e1) ?_ ?_ (e4.trans h8))
   ·rw[<-h3];exact e2
   ·rw[<-h3];exact e3
  cases c<;>simp only[comp]at hc
  case skip =>
   cases hc;simp only[exec,Qd2,Qm2]at hx;obtain⟨rfl,rfl⟩:=hx;exact wp_skip (hQ β I w a (Ext.refl _ _ _ _) hS hT rfl)
  case region id ops draw =>
   split at hc
   ·rename_i ks ap hks;split at hc
    ·cases hc;obtain⟨rfl,hmain⟩:=sJ (id:=id) hm hB (fun M' h=>hrec M' ae) bB hks hx;exact hmain Wr wd β I w a Q hmw hS hG hT hQ
    ·rename_i js _;cases hc;simp only[exec]at hx;split at hx
     ·rename_i st1 hx1;obtain⟨_,hmain⟩:=sJ (id:=id) hm hB (fun M' h=>hrec M' ae) bB hks hx1;cases M with
      | zero=>simp[exec]at hx
      | succ M =>
       simp only[exec,Qd2,Qm2]at hx;obtain⟨rfl,rfl⟩:=hx;exact hmain Wr wd β I w a Q hmw hS hG hT (fun β' I' w' a' h1 h2 h3 h4=>hQ β' I' w' a' h1 h2 (h3.kill _) h4)
     ·rename_i hne;obtain⟨rfl,_⟩:=sJ (id:=id) hm hB (fun M' h=>hrec M' ae) bB hks hx;exact absurd hx (hne _)
   ·cases hc
  case seq x y =>
   split at hc
   ·rename_i F1 F2 hF1 hF2;cases hc;simp only[exec]at hx;split at hx
    ·rename_i st1 hx1;have hk:=dQ E M _ _ _ _ hx;have hk1:=dQ E M _ _ _ _ hx1;exact wp_seq (chain hF1 hx1 hk.aS (fun β1 I1 w1 a1 e1 e2 e3 e4 e5=>next hF2 hx hk1.base e1 e2 e3 e4 e5 hQ))
    ·rename_i r hne;refine wp_seq (chain hF1 hx (fun h=>h) (fun β1 I1 w1 a1 e1 e2 e3 e4 e5 => ?_));have hk1:=dQ E M _ _ _ _ hx;rw[hk1.base]at e2 e4;cases o with
     | norm=>exact absurd hx (hne _)
     | exit id=>exact hQ β1 I1 w1 a1 e1 e2 e4 e5
     | ret=>exact hQ β1 I1 w1 a1 e1 e2 e4 e5
   ·cases hc
  case cond x c1 c2 =>
   split at hc
   ·rename_i y F1 F2 hy hF1 hF2;cases hc;simp only[exec]at hx;split at hx
    ·rename_i t ht;have hr:=hT.args (P:=P) bB hG (st:=st) rfl rfl [x] _ x y _ aA hy ht;have hev:a.eval x=.bool t:=by
      generalize hz:a.eval x=z at hr;cases hr with|d hr=>cases hr;rfl
     refine wp_cond hev ?_;cases t
     ·exact chain hF2 hx (fun h=>h) (fun β1 I1 w1 a1 e1 e2 e3 e4 e5=>by
       have hk1:=dQ E M _ _ _ _ hx;rw[hk1.base]at e2 e4;exact hQ β1 I1 w1 a1 e1 e2 e4 e5)
     ·exact chain hF1 hx (fun h=>h) (fun β1 I1 w1 a1 e1 e2 e3 e4 e5=>by
       have hk1:=dQ E M _ _ _ _ hx;rw[hk1.base]at e2 e4;exact hQ β1 I1 w1 a1 e1 e2 e4 e5)
    ·cases hx
   ·cases hc
  case block id c1 =>
   split at hc
   ·rename_i F1 hF1;cases hc;simp only[exec]at hx;split at hx
    ·rename_i id' st1 hx1;have hk1:=dQ E M _ _ _ _ hx1;refine wp_block (chain hF1 hx1 (fun h=>by split at hx<;>(cases hx;exact h)) (fun β1 I1 w1 a1 e1 e2 e3 e4 e5 => ?_));rw[hk1.base]at e2 e4;simp only[C8,Exit.inBlock];split at hx<;>rename_i hid<;>simp only[Qd2,Qm2]at hx<;>obtain⟨rfl,rfl⟩:=hx
     ·rw[if_pos hid];exact hQ β1 I1 w1 a1 e1 e2 e4 e5
     ·rw[if_neg hid];exact hQ β1 I1 w1 a1 e1 e2 e4 e5
    ·rename_i hne;have hk1:=dQ E M _ _ _ _ hx;refine wp_block (chain hF1 hx (fun h=>h) (fun β1 I1 w1 a1 e1 e2 e3 e4 e5 => ?_));rw[hk1.base]at e2 e4;cases o with
     | norm=>exact hQ β1 I1 w1 a1 e1 e2 e4 e5
     | exit id'=>exact absurd hx (hne _ _)
     | ret=>exact hQ β1 I1 w1 a1 e1 e2 e4 e5
   ·cases hc
  case loop c1 =>
   split at hc
   ·rename_i F1 hF1;cases hc
    -- rounds,by fuel
    have rounds:∀ K,K<=M+1->∀ (st1:St) (β1:Map) (I1:Nat->Prop) (w1:World) (a1:Act),exec E K (.loop F1) st1=some (o,st')->st1.base.length=st.base.length->Ext E.mn β β1 I I1 Wr w w1 ->
      aY σ st1.base.length β1 I1 Wr wd (st1.base++st1.loc) w1->dM E σ I1 w1->bn σ β1 I1 w1 st1.base.length cx st1.vars [] [] a1->a1.defers=a.defers->Code.rounds P c1 Q K a1 w1:=by
     intro K
     induction K with
     | zero=>intro _ st1 β1 I1 w1 a1 h1;simp[exec]at h1
     | succ K ihK =>
      intro hK st1 β1 I1 w1 a1 h1 h2 h3 h4 h5 h6 h7;have hE:Hu P E σ K:=vg hm hB K (fun M' h=>hrec M' ae) K (Qd1 _);simp only[exec]at h1;rw[rounds_succ];split at h1
      ·rename_i st2 hx1;have hk2:=dQ E K _ _ _ _ h1;have hk1:=dQ E K _ _ _ _ hx1;refine hE cx bB c1 F1 hF1 st1 _ st2 hx1 Wr wd β1 I1 w1 a1 _ ?_ h4 h5 h6 (fun β' I' w' a' e1 e2 e3 e4 => ?_)
       ·rw[h2];exact hmw.back hk2.aS
       ·exact ihK ae st2 β' I' w' a' h1 (hk1.base.trans h2) (h3.trans e1) (by rw[hk1.base];exact e2) (h5.mono e1.im e1.fo) (by rw[hk1.base];exact e3) (e4.trans h7)
      ·rename_i hne;refine hE cx bB c1 F1 hF1 st1 _ st' h1 Wr wd β1 I1 w1 a1 _ (by rw[h2];exact hmw) h4 h5 h6 (fun β' I' w' a' e1 e2 e3 e4 => ?_);rw[h2]at e2 e3;cases o with
       | norm=>exact absurd h1 (hne _)
       | exit id'=>exact hQ β' I' w' a' (h3.trans e1) e2 e3 (e4.trans h7)
       | ret=>exact hQ β' I' w' a' (h3.trans e1) e2 e3 (e4.trans h7)
    exact wp_loop_rounds (M+1) (rounds (M+1) (Qd1 _) st β I w a hx rfl (Ext.refl _ _ _ _) hS hG hT rfl)
   ·cases hc
  case exit id =>
   cases hc;simp only[exec,Qd2,Qm2]at hx;obtain⟨rfl,rfl⟩:=hx;exact wp_exit (hQ β I w a (Ext.refl _ _ _ _) hS hT rfl)
  case ret =>
   cases hc;simp only[exec,Qd2,Qm2]at hx;obtain⟨rfl,rfl⟩:=hx;exact wp_ret (hQ β I w a (Ext.refl _ _ _ _) hS hT rfl)
  all_goals cases hc
end exec
end
section
def mU (P:Program)(E:Env)(σ:Nat->Option FuncId):Prop :=
 ∀ g F,E.fn g=some F->∀ f,σ g=some f->∃ fn cx,P.funcs[f]?=some fn/\fP P cx fn=some F/\∀ f' g',cx.gid f'=some g'->σ g'=some f'
def iR (P:Program)(E:Env)(σ:Nat->Option FuncId):Prop :=
 (∀ g p,E.iV g=some p->∀ args ds v,jU args=some ds->p ds=some v->iL P E σ g args [] (.d v,none)) /\
 ∀ g p,E.iH g=some p->∀ args B r,p args B=some r->iL P E σ g args B r
theorem Kz {P:Program}{w:World}{α β:Type}{g:α->Sem β}:∀ {l:List α} {vs:List β},vs.length=l.length->(∀ (i:Nat) (x:α) (v:β),l[i]?=some x->vs[i]?=some v->(g x).run P w=.ok v w)->(l.mapM g).run P w=.ok vs w
 | [],[],_,_=>rfl
 | [],_::_,h,_=>by simp at h
 | _::_,[],h,_=>by simp at h
 | x::l,v::vs,h,hg=>by
  rw[List.mapM_cons];have h1:=hg 0 x v rfl rfl;have h2:=Kz (g:=g) (l:=l) (vs:=vs) (by simpa using h) (fun i y u hy hu=>hg (i+1) y u (by simpa using hy) (by simpa using hu));simp only[Sem.run_bind,h1,Result.andThen_ok,h2,Sem.run_pure]
def mW (vs:List Value):Value:=match vs with
 | [v]=>v
 | vs=>.tuple vs.toArray
section top
variable {P:Program} {E:Env} {σ:Nat->Option FuncId}
def O0 (P:Program)(tmps:Array Value)(w:World)(rv:ResultVar)(v:Value):Prop :=
 match rv with
 | .tmp t=>v=tmps.getD t undef
 | .cell t ty=>∃ ad,tmps.getD t undef=.pointer (some ad)/\(loadVar ty ad).run P w=.ok v w
theorem zN {fn:Func}{tmps:Array Value}{w:World}{vs:List Value}(hl:vs.length=fn.results.toList.length)(h:∀ (i:Nat) (rv:ResultVar) (v:Value),fn.results.toList[i]?=some rv->vs[i]?=some v->O0 P tmps w rv v) :
  (results fn tmps).run P w=.ok (mW vs) w:=by
 unfold results;rw[Array.mapM_eq_mapM_toList];simp only[Sem.run_bind,Sem.run_map,Sem.run_pure];rw[Kz hl (fun i rv v h1 h2 => ?_)]
 ·simp only[Result.andThen_ok]
  congr 1
  match vs with
  | []=>rfl
  | [v]=>rfl
  | _::_::_=>simp[mW]
 ·have:=h i rv v h1 h2;cases rv with
  | tmp t=>simp only[O0]at this;subst this;rfl
  | cell t ty =>
   obtain⟨ad,h3,h4⟩:=this;simp only[h3,asAddr,Sem.run_bind,Sem.run_pure,Result.andThen_ok];exact h4
theorem xh {cx:Cx}{β:Map}{I Wr wd:Nat->Prop}{w:World}{st:St}{a:Act}(hS:aY σ st.base.length β I Wr wd (st.base++st.loc) w)(hT:bn σ β I w st.base.length cx st.vars [] [] a) :
  ∀ {l:List ResultVar} {rs:List Res} {xs:List FV},nM P cx l=some rs->lL st rs=some xs ->
   ∃ vs:List Value,vs.length=l.length/\(∀ (i:Nat) (rv:ResultVar) (v:Value),l[i]?=some rv->vs[i]?=some v->O0 P a.tmps w rv v)/\gG σ β I w st.base.length xs vs
 | [],rs,xs,hc,hv=>by
  simp[nM]at hc;subst hc;simp[lL]at hv;subst hv;exact⟨[],rfl,fun i rv v h=>by simp at h,rfl,fun i c x h=>by simp at h⟩
 | .tmp t::l,rs,xs,hc,hv=>by
  simp only[nM]at hc;split at hc<;>simp at hc;subst hc;rename_i j s hj hs;simp only[lL]at hv;split at hv<;>simp at hv;subst hv;rename_i y ys hy hys;obtain⟨vs,g1,g2,g3⟩:=xh hS hT hs hys;simp only[F6]at hy;have hr:=hT.var j t y (nR hj) (fe _) hy;refine⟨a.tmps.getD t undef::vs,by simp[g1],fun i rv v h1 h2 => ?_,by simp[g3.1],fun i c x h1 h2 => ?_⟩
  ·cases i with
   | zero=>simp at h1 h2;subst h1;subst h2;simp[O0]
   | succ i=>exact g2 i rv v (by simpa using h1) (by simpa using h2)
  ·cases i with
   | zero =>
    simp only[Qv1,Qd2]at h1 h2;subst h1;subst h2;exact hr
   | succ i=>exact g3.2 i c x (by simpa using h1) (by simpa using h2)
 | .cell t ty::l,rs,xs,hc,hv=>by
  simp only[nM]at hc;split at hc<;>simp at hc;subst hc;rename_i j g m s hj hg hm hs;simp only[lL]at hv;split at hv<;>simp at hv;subst hv;rename_i y ys hy hys;obtain⟨vs,g1,g2,g3⟩:=xh hS hT hs hys;simp only[F6]at hy;split at hy
  ·rename_i q off hq;split at hy
   ·rename_i cs Ro;have hr:=hT.var j t _ (nR hj) (fe _) hq;generalize hz:a.eval (.tmp t)=z at hr;cases hr with
    | @r _ _ b bo cap hβ =>
     rw[St.fu]at Ro;obtain⟨rfl,c,e,h1,h2,h3⟩:=hS.box _ cs b bo cap Ro hβ;obtain⟨v,h4,h5⟩:=Ki hg hm h1 h2 h3 hy;refine⟨v::vs,by simp[g1],fun i rv u h6 h7 => ?_,by simp[g3.1],fun i c x h6 h7 => ?_⟩
     ·cases i with
      | zero =>
       simp only[Qv1,Qd2]at h6 h7;subst h6;subst h7;exact⟨_,hz,by simpa using h4⟩
      | succ i=>exact g2 i rv u (by simpa using h6) (by simpa using h7)
     ·cases i with
      | zero =>
       simp only[Qv1,Qd2]at h6 h7;subst h6;subst h7;exact h5
      | succ i=>exact g3.2 i c x (by simpa using h6) (by simpa using h7)
   ·cases hy
  ·cases hy
theorem uh {β:Map}{I:Nat->Prop}{w:World}{n:Nat}{ys:List FV}{vs:List Value}(h:gG σ β I w n ys vs):aH σ β I w n (oneOf ys) (mW vs):=by
 match ys,vs,h with
 | [y],[v],h=>exact h.2 0 y v rfl rfl
 | [],[],h=>exact aH.uz (cs:=[]) (vs:=#[]) rfl (fun i c x h=>by simp at h)
 | _::_::_,_::_::_,h =>
  simp only[oneOf,mW];exact aH.uz (by simpa using h.1) (fun i c x h1 h2=>h.2 i c x h1 (by simpa using h2))
 | [],_::_,h=>exact absurd h.1 aA
 | [_],[],h=>exact absurd h.1 aA
 | [_],_::_::_,h=>exact absurd h.1 aA
 | _::_::_,[],h=>exact absurd h.1 aA
 | _::_::_,[_],h=>exact absurd h.1 aA
theorem qH {N:Nat}(hE:Hu P E σ N){f:FuncId}{fn:Func}{cx:Cx}{F:bK}(hf:P.funcs[f]?=some fn)(hc:fP P cx fn=some F)(bB:∀ f' g',cx.gid f'=some g'->σ g'=some f'){args:List FV}{B:List ah}
  (hnp:args.length=F.np) {o:Out} {st':St} (hx:exec E N F.body {vars:=args++List.replicate (F.nv-F.np) .u,base:=B,loc:=[],aS:=false}=some (o,st')) (ho:∀ id,o≠.exit id) {xs:List FV} (hres:lL st' F.res=some xs)
  {Wr wd:Nat->Prop} {β:Map} {I:Nat->Prop} {w:World} {bz:Array Value} (hmw:jb B.length st' wd) (hS:aY σ B.length β I Wr wd B w) (hA:gG σ β I w B.length args bz.toList) (hG:dM E σ I w) {R:Ending->World->Prop}
  (hR:∀ β' I' w' vs,Ext E.mn β β' I I' Wr w w'->aY σ st'.base.length β' I' Wr wd (st'.base++st'.loc) w'->gG σ β' I' w' st'.base.length xs vs->R (.returned (mW vs)) w') :
  Calls P f bz w R:=by
 unfold fP at hc;split at hc
 ·cases hc
 ·rename_i c hb;split at hc
  ·rename_i b rs hcb hcr;simp only at hc;split at hc<;>simp only[Qd2,reduceCtorEq]at hc;subst hc;rename_i hh;obtain⟨h1,h2,h3,h4⟩:=hh;have hvs:bz.size=fn.params.size+fn.nfree:=by
    have:=hA.1;simp only[Xg2]at this;rw[this];exact hnp
   simp only at hnp hx;have hlt:∀ j,j<fn.params.size+fn.nfree->cx.vars[j]?=some j:=by
    intro j hj;have h5:(cx.vars.take (fn.params.size+fn.nfree))[j]?=some j:=by rw[h1,Xq2 hj]
    rw[Qo2,if_pos hj]at h5;exact h5
   have hle:fn.params.size+fn.nfree<=fn.ntmps:=by
    rcases Qq0 (fn.params.size+fn.nfree) with h0|h0
    ·omega
    ·have h5:=hlt (fn.params.size+fn.nfree-1) ae;have h6:fn.params.size+fn.nfree-1<cx.ntmps:=by simpa using Qh2.1 h4 _ (Qa2 h5)
     rw[h3]at h6;omega
   refine calls_of_wp hf hb ?_;have hk:=dQ E N _ _ _ _ hx;refine hE cx bB c b hcb _ o st' hx Wr wd β I w _ _ hmw (by simpa using hS) hG ⟨?_,fun j t y h5 _ h6 => ?_,fun t j y h5=>by rw[fe]at h5;cases h5⟩ (fun β' I' w' a' e1 e2 e3 e4 => ?_)
   ·simp only[Array.size_append,Array.size_replicate];omega
   ·rcases Qg1 j (fn.params.size+fn.nfree) with hj|hj
    ·rw[hlt j hj]at h5;cases h5;rw[Qa0 ae]at h6;have h7:bz.toList[j]?=some (bz[j]'(by omega)):=by rw[Qt2,Qh0 ae]
     have h8:=hA.2 j y _ h6 h7;have h9:(Act.eval {tmps:=bz++Array.replicate (fn.ntmps-bz.size) undef,defers:=[]} (.tmp j))=bz[j]'(by omega):=by
      simp only[Act.eval,Qs1];rw[Xj0 ae,Qh0 ae];rfl
     rw[h9];exact h8
    ·rw[Qc0 ae,Q42]at h6;split at h6
     ·cases h6;exact .u _
     ·cases h6
   ·rw[<-hk.base]at e2 e3;obtain⟨vs,g1,g2,g3⟩:=xh (P:=P) e2 e3 hcr hres;have hend:a'.defers=[]/\∃ v,(results fn a'.tmps).run P w'=.ok v w'/\R (.returned v) w':=⟨e4,_,zN g1 g2,hR β' I' w' vs e1 e2 g3⟩
    cases o with
    | norm=>exact hend
    | ret=>exact hend
    | exit id=>exact absurd rfl (ho id)
  ·cases hc
theorem Ns {F:bK}{st:St}{r:FV × Option (List ah)}(h:finish F st=some r):∃ xs,lL st F.res=some xs/\((F.ref=true/\r=fI (oneOf xs) st)\/∃ ys,fZ st xs=some ys/\r=fI (oneOf ys) (aJ st (xs.flatMap FV.rows))):=by
 unfold finish at h;split at h
 ·cases h
 ·rename_i xs hxs;split at h
  ·rename_i hF;cases h;exact⟨xs,hxs,.inl ⟨hF,rfl⟩⟩
  ·split at h
   ·cases h
   ·rename_i ys hys;cases h;exact⟨xs,hxs,.inr ⟨ys,hys,rfl⟩⟩
theorem Nt (hF:mU P E σ)(hP:iR P E σ){N:Nat}(hE:Hu P E σ N):jS P E σ (RG E N):=by
 intro g args B r hr;have adX:Given E g:=by
  have hr:=hr;unfold RG enter at hr;split at hr
  ·rename_i p hp;exact .inr (.inl (by rw[hp];rfl))
  ·split at hr
   ·split at hr
    ·rename_i p hp;exact .inr (.inr (by rw[hp];rfl))
    ·cases hr
   ·rename_i F hFn;exact .inl (by rw[hFn];rfl)
 refine⟨adX,?_⟩;unfold RG enter at hr;split at hr
 ·rename_i p hp;split at hr
  ·rename_i ds hds;split at hr
   ·rename_i v hv;cases hr;exact hP.1 g p hp args ds v hds hv
   ·cases hr
  ·cases hr
 ·split at hr
  ·split at hr
   ·rename_i p hp;split at hr
    ·rename_i v B' hpv;split at hr
     ·cases hr;exact hP.2 g p hp args B _ hpv
     ·cases hr
    ·exact hP.2 g p hp args B _ hr
   ·cases hr
  ·rename_i F hFn;split at hr
   ·rename_i hnp;split at hr
    ·cases hr
    ·rename_i o st' hne hx;have ho:∀ id,o≠.exit id:=fun id e=>hne id e
     obtain⟨xs,h1,h3⟩:=Ns hr;have hk:=dQ E N _ _ _ _ hx;rcases h3 with ⟨_,h3⟩|⟨ys,h2,h3⟩
     ·unfold fI at h3;split at h3
      ·rename_i Ob;simp only[Qb1,Qs2]at Ob;subst h3;intro f hσ β I w bz hS hA hG;obtain⟨fn,cx,hf,hc,bB⟩:=hF g F hFn f hσ;refine qH hE hf hc bB hnp hx ho h1 ⟨fun k h=>h,fun hd=>by rw[Ob.2]at hd;cases hd⟩ hS hA hG (fun β' I' w' vs e1 e2 e3 => ?_);have hl:=uh e3;obtain⟨z,hz⟩:∃ z,oneOf xs=.d z:=by
        cases hy:oneOf xs<;>rw[hy]at Ob<;>simp[jY]at Ob;exact⟨_,rfl⟩
       rw[hz]at hl;cases hl with
       | d hl=>exact⟨mW vs,z,I',rfl,hz,hl,e1.im,fun b hb=>e1.ik b hb,e2.lH,e1.size,fun b hb=>e1.keepW b hb ae,e1.os,e1.tape,e1.output,e1.drawn⟩
      ·subst h3;intro f hσ β I Wr w bz hS hA hG;obtain⟨fn,cx,hf,hc,bB⟩:=hF g F hFn f hσ;refine qH hE hf hc bB hnp hx ho h1 ⟨fun _ _=>trivial,fun _ _=>trivial⟩ hS hA hG (fun β' I' w' vs e1 e2 e3 => ?_);have hl:=uh e3;refine⟨mW vs,β',I',rfl,e1,fun n' wd' => ?_,fun n'=>hl.az n'⟩;exact e2.old e2.jW (fun k o' b bo cap h4 h5 _=>(e2.wr k o' b bo cap h4 h5).1 trivial)
     have hkf:=Kept.aJ (xs.flatMap FV.rows) st';unfold fI at h3;split at h3
     ·rename_i Ob;simp only[Qb1,Qs2]at Ob;subst h3;intro f hσ β I w bz hS hA hG;obtain⟨fn,cx,hf,hc,bB⟩:=hF g F hFn f hσ;have hnd:st'.aS=false:=by
       cases hd:st'.aS with
       | false=>rfl
       | true=>rw[hkf.aS hd]at Ob;exact absurd Ob.2 aA
      refine qH hE hf hc bB hnp hx ho h1 ⟨fun k h=>h,fun hd=>by rw[hnd]at hd;cases hd⟩ hS hA hG (fun β' I' w' vs e1 e2 e3 => ?_);obtain⟨I1,hfz⟩:=iP (xs.flatMap FV.rows) e2;have hl:=uh (gH e2 h2 e3 hfz.im (hfz.Dy e2));obtain⟨z,hz⟩:∃ z,oneOf ys=.d z:=by
       cases hy:oneOf ys<;>rw[hy]at Ob<;>simp[jY]at Ob;exact⟨_,rfl⟩
      rw[hz]at hl;cases hl with
      | d hl =>
       refine⟨mW vs,z,I1,rfl,hz,hl,fun b hb=>hfz.im b (e1.im b hb),fun b hb => ?_,hfz.pY.lH,e1.size,fun b hb=>e1.keepW b hb ae,e1.os,e1.tape,e1.output,e1.drawn⟩;rcases hfz.ik b hb with h|⟨k,o',bo,cap,h4,h5,h6⟩
       ·exact e1.ik b h
       ·rcases h6 with h6|h6
        ·rw[h6]at Ob;exact absurd Ob.2 aA
        ·exact .inr ((e2.wr k o' b bo cap h4 h5).1 (by rw[hk.base]at h6;exact h6))
     ·subst h3;intro f hσ β I Wr w bz hS hA hG;obtain⟨fn,cx,hf,hc,bB⟩:=hF g F hFn f hσ;refine qH hE hf hc bB hnp hx ho h1 ⟨fun _ _=>trivial,fun _ _=>trivial⟩ hS hA hG (fun β' I' w' vs e1 e2 e3 => ?_);obtain⟨I1,hfz⟩:=iP (xs.flatMap FV.rows) e2;have hl:=uh (gH e2 h2 e3 hfz.im (hfz.Dy e2));refine⟨mW vs,β',I1,rfl,?_,fun n' wd' => ?_,fun n' => ?_⟩
      ·refine⟨e1.bm,fun b hb=>hfz.im b (e1.im b hb),fun b hb => ?_,e1.size,e1.fo,e1.keepW,e1.os,e1.tape,e1.output,e1.drawn⟩;rcases hfz.ik b hb with h|⟨k,o',bo,cap,h4,h5,_⟩
       ·exact e1.ik b h
       ·exact .inr ((e2.wr k o' b bo cap h4 h5).1 trivial)
      ·rw[hkf.base];exact hfz.pY.old hfz.pY.jW (fun k o' b bo cap h4 h5 _=>(hfz.pY.wr k o' b bo cap h4 h5).1 trivial)
      ·rw[hkf.base];exact hl.az n'
    ·cases hr
   ·cases hr
theorem pX (hm:P.follows .mixedOrders=true)(hB:Bodies P E σ)(hF:mU P E σ)(hP:iR P E σ)(N:Nat):jS P E σ (RG E N):=by
 induction N using Nat.strongRecOn with
 | ind N ih=>exact Nt hF hP (vg hm hB N ih N (Qd1 _))
theorem Fu (hm:P.follows .mixedOrders=true)(hB:Bodies P E σ)(hF:mU P E σ)(hP:iR P E σ){N g:Nat}{args:List FV}{y:FV}(h:cu E N g args []=some (y,none)){f:FuncId}(hσ:σ g=some f)
  {I:Nat->Prop} {w:World} {bz:Array Value} (hI:∀ b,I b->b<w.heap.size) (hA:gG σ (fun _ _=>none) I w 0 args bz.toList) (hG:dM E σ I w) :
  Calls P f bz w fun e w'=>∃ x z I',e=.returned x/\y=.d z/\bD σ I' w' z x/\Grow E.mn I I' w w' :=
 (pX hm hB hF hP N g args [] _ h).2 f hσ _ I w bz (.empty _ hI (fun _ h=>h)) hA hG
end top
end
def sg (n:Nat)(g:Nat):Option Nat:=bif Nat.blt g n then some g else none
def ky (E:Env)(no:List Nat):Bool:=no.all fun g=>(E.fn g).isNone&&(E.iV g).isNone&&(E.iH g).isNone
theorem alU {c:Bool}{A B:Option bK}{F:bK}{Q:Prop}(hA:A=some F->Q)(hB:B=some F->Q):(bif c then A else B)=some F->Q:=by
 cases c
 ·exact hB
 ·exact hA
theorem ac' {g k:Nat}{fk F:bK}{Q:Prop}(h:g=k->fk=F->Q):(bif Nat.beq g k then some fk else none)=some F->Q:=by
 intro hb;cases hc:Nat.beq g k with
 | false=>rw[hc]at hb;cases hb
 | true =>
  rw[hc]at hb;simp only[cond_true,Qd2]at hb;exact h (Qg2 hc) hb
def ac_ (T:List Nat)(f:FuncId):Option Nat:=T[f]?
def KA (T:List Nat)(g:Nat):Option FuncId:=T.findIdx? (Nat.beq g)
def nodupB:List Nat->Bool
 | []=>true
 | x::r => !(r.any (Nat.beq x))&&nodupB r
theorem O1 {T:List Nat}{g f:Nat}(h:KA T g=some f):T[f]?=some g:=by
 unfold KA at h;rw[Qs0]at h;obtain⟨h1,h2,_⟩:=h;rw[Qa1 h1,<-Qg2 h2]
theorem Hw:∀ {T:List Nat} {g f:Nat},nodupB T=true->T[f]?=some g->KA T g=some f
 | [],_,_,_,h=>by simp at h
 | x::r,g,f,hn,h=>by
  simp only[nodupB,Qb1,Qs2]at hn;unfold KA;rw[Xt2];cases f with
  | zero =>
   simp only[Qv1,Qd2]at h;subst h;simp
  | succ f =>
   simp only[List.getElem?_cons_succ]at h;have hne:Nat.beq g x=false:=by
    cases hb:Nat.beq g x with
    | false=>rfl
    | true =>
     have:=Qg2 hb;subst this;rw[Xd2.2 ⟨g,Qa2 h,aA⟩]at hn;exact absurd hn.1 aA
   rw[hne];have:=Hw hn.2 h;unfold KA at this;simp[this]
def Hy (P:Program)(T no:List Nat):Bool :=
 T.zipIdx.all fun x=>(no.any fun k=>Nat.beq x.1 k)||match P.funcs[x.2]? with
  | some fn => fn.body.isSome && !(fn.name == "runtime.NumGoroutine")
  | none=>false
theorem aat {P:Program}{E:Env}{T no:List Nat}(h:Hy P T no=true)(h2:ky E no=true):Bodies P E (KA T):=by
 intro g f hg hf;have hat:=O1 hf;have h3:=Qh2.1 h (g,f) (by rw[Xp1];exact hat);have hno:(no.any fun k=>Nat.beq g k)=false:=by
  cases ha:no.any fun k=>Nat.beq g k with
  | false=>rfl
  | true =>
   obtain⟨k,hk,he⟩:=Xd2.1 ha;have:=Qg2 he;subst this;have h4:=Qh2.1 h2 g hk;simp only[Qb1,Option.isNone_iff_eq_none]at h4;rcases hg with hg|hg|hg
   ·rw[h4.1.1]at hg;cases hg
   ·rw[h4.1.2]at hg;cases hg
   ·rw[h4.2]at hg;cases hg
 simp only[hno,Xc2]at h3;split at h3
 ·rename_i fn hfn;simp only[Qb1,Qs2]at h3;obtain⟨c,hc⟩:=Q32.1 h3.1;exact⟨fn,c,hfn,hc,h3.2⟩
 ·cases h3
def Ag (T X:List Nat)(g:Nat):Option FuncId:=if X.any (Nat.beq g) then KA T (g-2000) else KA T g
def aau (T Y:List Nat)(f:FuncId):Option Nat:=match T[f]? with
 | some g=>if Y.any (Nat.beq (g+2000)) then some (g+2000) else some g
 | none=>none
def vO (T X no:List Nat):Bool:=X.all fun g => !(T.any (Nat.beq g)) && !(no.any (Nat.beq (g-2000)))
theorem AU {X:List Nat}{g:Nat}:X.any (Nat.beq g)=true↔g ∈ X:=by
 rw[Xd2];exact⟨fun⟨x,hx,he⟩=>Qg2 he ▸ hx,fun h=>⟨g,h,aA⟩⟩
theorem Xd {T X no:List Nat}(h:vO T X no=true){g:Nat}(hg:g ∈ T):X.any (Nat.beq g)=false:=by
 cases hb:X.any (Nat.beq g) with
 | false=>rfl
 | true =>
  rw[AU]at hb;have:=Qh2.1 h g hb;simp only[Qb1,Qs2]at this;rw[AU.2 hg]at this;cases this.1
theorem w_ {T X no:List Nat}(hn:nodupB T=true)(ht:vO T X no=true){f g:Nat}(h:T[f]?=some g):Ag T X g=some f:=by
 unfold Ag;rw[Xd ht (Qa2 h),if_neg aA];exact Hw hn h
theorem KC {T X Y no:List Nat}(hn:nodupB T=true)(ht:vO T X no=true)(hY:(Y.all fun y=>X.any (Nat.beq y))=true){f g:Nat}(h:aau T Y f=some g):Ag T X g=some f:=by
 unfold aau at h;split at h
 ·rename_i g' hg';split at h
  ·rename_i hy;cases h;have hx:X.any (Nat.beq (g'+2000))=true:=Qh2.1 hY (g'+2000) (AU.1 hy);unfold Ag;rw[if_pos hx,Q02];exact Hw hn hg'
  ·cases h;exact w_ hn ht hg'
 ·cases h
theorem aav {P:Program}{E:Env}{T X no:List Nat}(h:Hy P T no=true)(ht:vO T X no=true)(h2:ky E no=true):Bodies P E (Ag T X):=by
 intro g f hg hf;unfold Ag at hf;split at hf
 ·rename_i hx;have hat:=O1 hf;have h3:=Qh2.1 h (g-2000,f) (by rw[Xp1];exact hat);have hno:=Qh2.1 ht g (AU.1 hx);simp only[Qb1,Qs2]at hno;have ac0:(no.any fun k=>Nat.beq (g-2000) k)=false:=hno.2;simp only[ac0,Xc2]at h3;split at h3
  ·rename_i fn hfn;simp only[Qb1,Qs2]at h3;obtain⟨c,hc⟩:=Q32.1 h3.1;exact⟨fn,c,hfn,hc,h3.2⟩
  ·cases h3
 ·exact aat h h2 g f hg hf
theorem aiR {P:Program}{T X no:List Nat}(hn:nodupB T=true)(ht:vO T X no=true){g k j:Nat}{F fk:bK}{cx:Cx}{fn:Func}(hg:g=k)(hF:fk=F)(hk:fP P cx fn=some fk)(hf:P.funcs[j]?=some fn)(hj:T[j]?=some k)(hc:cx.gid=ac_ T) :
  ∀ f,Ag T X g=some f->∃ fn cx,P.funcs[f]?=some fn/\fP P cx fn=some F/\∀ f' g',cx.gid f'=some g'->Ag T X g'=some f':=by
 intro f h;subst hg;subst hF;have:f=j:=by
  rw[w_ hn ht hj]at h;exact(Qw1 h).symm
 subst this;refine⟨fn,cx,hf,hk,fun f' g' h' => ?_⟩;rw[hc]at h';exact w_ hn ht h'
theorem alV {P:Program}{T X no:List Nat}(hn:nodupB T=true)(ht:vO T X no=true){Y:List Nat}{g k j:Nat}{F fk:bK}{cx:Cx}{fn:Func}(hg:g=k)(hF:fk=F)(hk:fP P cx fn=some fk)(hf:P.funcs[j]?=some fn)(hj:Ag T X k=some j)(hY:(Y.all fun y=>X.any (Nat.beq y))=true)(hc:cx.gid=aau T Y) :
  ∀ f,Ag T X g=some f->∃ fn cx,P.funcs[f]?=some fn/\fP P cx fn=some F/\∀ f' g',cx.gid f'=some g'->Ag T X g'=some f':=by
 intro f h;subst hg;subst hF;have:f=j:=by
  rw[hj]at h;exact(Qw1 h).symm
 subst this;refine⟨fn,cx,hf,hk,fun f' g' h' => ?_⟩;rw[hc]at h';exact KC hn ht hY h'
def yes (r:bF):Bool:=match r with
 | some (.d (.v (.bool b)),none)=>b
 | _=>false
theorem abI {r:bF}(h:yes r=true):r=some (.d (.v (.bool true)),none):=by
 unfold yes at h;split at h
 ·subst h;rfl
 ·cases h
section
theorem FX (k:IntKind)(a b:Int):∃ z:Int,z=k.wrap (BitVec.ofInt k.bits a ||| BitVec.ofInt k.bits b).toNat:=⟨_,rfl⟩
theorem DR (k:IntKind)(a b:Int):∃ z:Int,z=k.wrap (BitVec.ofInt k.bits a &&& BitVec.ofInt k.bits b).toNat:=⟨_,rfl⟩
theorem DT (k:IntKind)(a b:Int):∃ z:Int,z=k.wrap (BitVec.ofInt k.bits a ^^^ BitVec.ofInt k.bits b).toNat:=⟨_,rfl⟩
theorem DU (k:IntKind)(a b:Int):∃ z:Int,z=k.wrap (a*2 ^ (min b.toNat k.bits)):=⟨_,rfl⟩
noncomputable def KW (k:IntKind) (a b:Int):Int:=Classical.choose (DU k a b)
theorem Ah (k:IntKind)(a b:Int):KW k a b=k.wrap (a*2 ^ (min b.toNat k.bits)):=Classical.choose_spec (DU k a b)
noncomputable def Ba (k:IntKind) (a b:Int):Int:=Classical.choose (FX k a b)
noncomputable def jH (k:IntKind) (a b:Int):Int:=Classical.choose (DR k a b)
noncomputable def adY (k:IntKind) (a b:Int):Int:=Classical.choose (DT k a b)
theorem xY (k:IntKind)(a b:Int):Ba k a b=k.wrap (BitVec.ofInt k.bits a ||| BitVec.ofInt k.bits b).toNat:=Classical.choose_spec (FX k a b)
theorem sW (k:IntKind)(a b:Int):jH k a b=k.wrap (BitVec.ofInt k.bits a &&& BitVec.ofInt k.bits b).toNat:=Classical.choose_spec (DR k a b)
theorem aaw (k:IntKind)(a b:Int):adY k a b=k.wrap (BitVec.ofInt k.bits a ^^^ BitVec.ofInt k.bits b).toNat:=Classical.choose_spec (DT k a b)
section
variable {k k':IntKind} {a b:Int}
theorem agV:gU .add (.int k a) (.int k b)=some (.int k (k.wrap (a+b))):=by simp[gU]
theorem agW:gU .sub (.int k a) (.int k b)=some (.int k (k.wrap (a-b))):=by simp[gU]
theorem agX:gU .mul (.int k a) (.int k b)=some (.int k (k.wrap (a*b))):=by simp[gU]
theorem agY:gU .quo (.int k a) (.int k b)=if b=0 then none else some (.int k (k.wrap (a.tdiv b))):=by simp[gU]
theorem agZ:gU .rem (.int k a) (.int k b)=if b=0 then none else some (.int k (a.tmod b)):=by simp[gU]
theorem ajw:gU .or (.int k a) (.int k b)=some (.int k (Ba k a b)):=by simp[gU,xY]
theorem ag0:gU .and (.int k a) (.int k b)=some (.int k (jH k a b)):=by simp[gU,sW]
theorem ag1:gU .xor (.int k a) (.int k b)=some (.int k (adY k a b)):=by simp[gU,aaw]
theorem ag2:gU .shl (.int k a) (.int k' b)=if b<0 then none else some (.int k (KW k a b)):=by simp[gU,Ah]
theorem ag3:gU .shr (.int k a) (.int k' b)=if b<0 then none else some (.int k (a.fdiv (2 ^ (min b.toNat k.bits)))):=by simp[gU]
theorem ag4:gU .eql (.int k a) (.int k b)=some (.bool (a==b)):=by simp[gU]
theorem ag5:gU .neq (.int k a) (.int k b)=some (.bool (a != b)):=by simp[gU]
theorem ag6:gU .lss (.int k a) (.int k b)=some (.bool (decide (a<b))):=by simp[gU]
theorem ag7:gU .leq (.int k a) (.int k b)=some (.bool (decide (a<=b))):=by simp[gU]
theorem ag8:gU .gtr (.int k a) (.int k b)=some (.bool (decide (b<a))):=by simp[gU]
theorem ag9:gU .geq (.int k a) (.int k b)=some (.bool (decide (b<=a))):=by simp[gU]
end
end
section
section eqs
variable {E:Env} {n:Nat} {st:St}
theorem sK {a b : aF} : exec E (n + 1) (.seq a b) st = match exec E n a st with
      | some (.norm, st') => exec E n b st'
      | r => r := rfl
theorem za {x : Arg} {a b : aF} : exec E (n + 1) (.cond x a b) st = match di E st [] x with
      | some (.d (.v (.bool t))) => exec E n (if t then a else b) st
      | _ => none := rfl
theorem kH {id : Nat} {b : aF} : exec E (n + 1) (.block id b) st = match exec E n b st with
      | some (.exit id', st') => if id' = id then some (.norm, st') else some (.exit id', st')
      | r => r := rfl
theorem oV {b : aF} : exec E (n + 1) (.loop b) st = match exec E n b st with
      | some (.norm, st') => exec E n (.loop b) st'
      | r => r := rfl
theorem sM {ops:List jm}{outs apart:List (Nat × Nat)}:exec E (n+1) (.region ops outs apart) st =
  if kJ st apart then(match dU E (cu E n) ops st [] with
   | some (st',env)=>some (.norm,{st' with vars:=jk st'.vars env outs})
   | none=>none) else none:=rfl
theorem AA {g:Nat}{F:bK}{args:List FV}{B:List ah}(hp:E.iV g=none)(hf:E.fn g=some F)(hl:args.length=F.np) :
  cu E n g args B=match exec E n F.body {vars:=args++List.replicate (F.nv-F.np) .u,base:=B,loc:=[],aS:=false} with
    | some (.exit _,_)=>none
    | some (_,st')=>finish F st'
    | none=>none:=by
 unfold cu enter;rw[hp,hf];simp only[hl,if_true];rfl
theorem Nu {g:Nat}{p:List FV->List ah->bF}{args:List FV}{B:List ah}(hp:E.iV g=none)(hf:E.fn g=none)(hB:E.iH g=some p) :
  cu E n g args B=match p args B with
    | some (v,some B')=>if B.length<=B'.length then some (v,some B') else none
    | r=>r:=by
 unfold cu enter;simp only[hp,hf,hB];rfl
end eqs
def Le (r r':Nat->List FV->List ah->bF):Prop:=∀ g args B x,r g args B=some x->r' g args B=some x
section mono
variable {E:Env} {r r':Nat->List FV->List ah->bF}
theorem uK (h:Le r r'){draw:Bool}{st:St}{g:Nat}{xs:List FV}{rows:List Ref}{z:FV × St}(hz:eD r draw st g xs rows=some z):eD r' draw st g xs rows=some z:=by
 unfold eD at hz ⊢;cases hr:r g xs [] with
 | none=>rw[hr]at hz;cases hz
 | some x=>rw[h _ _ _ _ hr];rw[hr]at hz;exact hz
theorem uL (h:Le r r'){draw:Bool}{st:St}{g:Nat}{xs:List FV}{rows:List Ref}{z:FV × St}(hz:dx r draw st g xs rows=some z):dx r' draw st g xs rows=some z:=by
 unfold dx at hz ⊢;cases hr:r g (FV.aP st.base.length xs) (((aJ st rows).base++(aJ st rows).loc).map (ah.az st.base.length)) with
 | none=>rw[hr]at hz;cases hz
 | some x=>rw[h _ _ _ _ hr];rw[hr]at hz;exact hz
theorem sN (h:Le r r'){draw:Bool}{st:St}{g:Nat}{args:List FV}{z:FV × St}(hz:fK r draw st g args=some z):fK r' draw st g args=some z:=by
 unfold fK at hz ⊢;split at hz
 ·cases hz
 ·split at hz
  ·rename_i hc;rw[if_pos hc];exact uK h hz
  ·rename_i hc;rw[if_neg hc];exact uL h hz
theorem uM (h:Le r r'){st:St}{g:Nat}{args:List FV}{z:FV × St}(hz:dV E r st g args=some z):dV E r' st g args=some z:=by
 unfold dV at hz ⊢;split at hz
 ·cases hz
 ·rename_i xs hl;split at hz
  ·rename_i hr;rw[if_pos hr];split at hz
   ·rename_i hc;rw[if_pos hc];exact uK h hz
   ·rename_i hc;rw[if_neg hc];cases hq:r g (FV.aP st.base.length xs) ((st.base++st.loc).map (ah.az st.base.length)) with
    | none=>rw[hq]at hz;cases hz
    | some x=>rw[h _ _ _ _ hq];rw[hq]at hz;exact hz
  ·cases hz
theorem RH (h:Le r r'){draw:Bool}{st:St}{env:List FV}{k:K}{z:FV × St}(hz:runK E r draw st env k=some z):runK E r' draw st env k=some z:=by
 cases k with
 | call g args =>
  simp only[runK]at hz ⊢;split at hz
  ·exact sN h hz
  ·cases hz
 | lQ f args =>
  simp only[runK]at hz ⊢;split at hz
  ·exact sN h hz
  ·exact sN h hz
  ·cases hz
 | qJ g args =>
  simp only[runK]at hz ⊢;split at hz
  ·exact uL h hz
  ·cases hz
 | lS f args ps =>
  simp only[runK]at hz ⊢;split at hz
  ·rename_i hp;rw[if_pos hp];split at hz
   ·exact uM h hz
   ·exact uM h hz
   ·cases hz
  ·cases hz
 | _=>exact hz
theorem lG (h:Le r r'):∀ {ops:List jm} {st:St} {env:List FV} {z:St × List FV},dU E r ops st env=some z->dU E r' ops st env=some z
 | [],st,env,z,hz=>hz
 | o::rest,st,env,z,hz=>by
  unfold dU at hz ⊢;split at hz
  ·cases hz
  ·exact lG h hz
  ·rename_i hg;split at hz
   ·cases hz
   ·rename_i v st' hk;rw[RH h hk];exact lG h hz
theorem DV:∀ (n:Nat) (c:aF) (st:St) (z:Out × St),exec E n c st=some z->exec E (n+1) c st=some z
 | 0,_,_,_,h=>by cases h
 | n+1,c,st,z,h=>by
  have ih:=DV n;have hc:Le (cu E n) (cu E (n+1)):=by
   intro g args B x hx;unfold cu enter at hx ⊢;split at hx
   ·exact hx
   ·split at hx
    ·exact hx
    ·rename_i F hF;split at hx
     ·rename_i hl;rw[if_pos hl];generalize hi:({vars:=args++List.replicate (F.nv-F.np) FV.u,base:=B,loc:=[],aS:=false}:St)=s0 at hx ⊢;cases he:exec E n F.body s0 with
      | none=>rw[he]at hx;cases hx
      | some z=>rw[ih _ _ _ he];rw[he]at hx;exact hx
     ·cases hx
  cases c with
  | skip=>exact h
  | ret=>exact h
  | exit id=>exact h
  | kill js=>exact h
  | region ops outs apart =>
   rw[sM]at h ⊢;split at h
   ·rename_i ha;rw[if_pos ha];split at h
    ·rename_i st' env hr;rw[lG hc hr];exact h
    ·cases h
   ·cases h
  | seq a b =>
   rw[sK]at h ⊢;cases he:exec E n a st with
   | none=>rw[he]at h;cases h
   | some x =>
    obtain⟨o,st'⟩:=x;rw[ih _ _ _ he];rw[he]at h;cases o with
    | norm=>exact ih _ _ _ h
    | exit id=>exact h
    | ret=>exact h
  | cond x a b =>
   rw[za]at h ⊢;split at h
   ·exact ih _ _ _ h
   ·cases h
  | block id b =>
   rw[kH]at h ⊢;cases he:exec E n b st with
   | none=>rw[he]at h;cases h
   | some x=>rw[ih _ _ _ he];rw[he]at h;exact h
  | loop b =>
   rw[oV]at h ⊢;cases he:exec E n b st with
   | none=>rw[he]at h;cases h
   | some x =>
    obtain⟨o,st'⟩:=x;rw[ih _ _ _ he];rw[he]at h;cases o with
    | norm=>exact ih _ _ _ h
    | exit id=>exact h
    | ret=>exact h
theorem FY {n m:Nat}{c:aF}{st:St}{z:Out × St}(h:exec E n c st=some z)(hm:n<=m):exec E m c st=some z:=by
 induction hm with
 | refl=>exact h
 | step _ ih=>exact DV _ _ _ _ ih
theorem yo {n m g:Nat}{args:List FV}{B:List ah}{x:FV × Option (List ah)}(hx:cu E n g args B=some x)(hm:n<=m):cu E m g args B=some x:=by
 unfold cu enter at hx ⊢;split at hx
 ·exact hx
 ·split at hx
  ·exact hx
  ·rename_i F hF;split at hx
   ·rename_i hl;rw[if_pos hl];generalize hi:({vars:=args++List.replicate (F.nv-F.np) FV.u,base:=B,loc:=[],aS:=false}:St)=s0 at hx ⊢;cases he:exec E n F.body s0 with
    | none=>rw[he]at hx;cases hx
    | some z=>rw[FY he hm];rw[he]at hx;exact hx
   ·cases hx
end mono
def Ca (E:Env)(g:Nat)(args:List FV)(r:FV × Option (List ah)):Prop:=∃ n0,∀ n,n0<=n->cu E n g args []=some r
theorem Ca.of {E:Env}{n g:Nat}{args:List FV}{r:FV × Option (List ah)}(h:cu E n g args []=some r):Ca E g args r:=⟨n,fun _ hm=>yo h hm⟩
end
end Fi
/-
 Which variables a function has,and which of them end behind a region: by bits,so that the kernel can reckon it.
-/
namespace Fi
open Go
def bs (t:Nat):Nat:=Nat.shiftLeft 1 t
def mns (a b:Nat):Nat:=Nat.sub a (Nat.land a b)
def oB (o:Oper):Nat:=o.op.operands.toList.foldl (fun s x=>match x with|.tmp t=>Nat.lor s (bs t)|_=>s) 0
def rgU:List Oper->Nat->Nat->Nat × Nat
 | [],u,d=>(u,d)
 | o::r,u,d=>rgU r (Nat.lor u (mns (oB o) d)) (match o.dst with | some t=>Nat.lor d (bs t) | none=>d)
inductive LC
 | z | rg (i u d:Nat) | sq (a b:LC) | cd (m:Nat) (a b:LC) | bk (i:Nat) (b:LC) | lp (b:LC) | ex (i:Nat) | rt
def Nv:Code->LC
 | .region i ops _=>match rgU ops.toList 0 0 with | (u,d)=>.rg i u d
 | .seq a b=>.sq (Nv a) (Nv b)
 | .cond x a b=>.cd (match x with | .tmp t=>bs t | _=>0) (Nv a) (Nv b)
 | .block i b=>.bk i (Nv b)
 | .loop b=>.lp (Nv b)
 | .exit i=>.ex i
 | .ret=>.rt
 | _=>.z
def LC.use:LC->Nat
 | .rg _ u _=>u
 | .sq a b=>Nat.lor a.use b.use
 | .cd m a b=>Nat.lor m (Nat.lor a.use b.use)
 | .bk _ b | .lp b=>b.use
 | _=>0
abbrev As:=List (Nat × Nat)
def ag:As->Nat->Nat
 | [],_=>0
 | (k,v)::r,i=>bif Nat.beq k i then v else ag r i
def ap (i v:Nat):As->As
 | []=>[(i,v)]
 | (k,w)::r=>bif Nat.beq k i then(k,Nat.lor v w)::r else(k,w)::ap i v r
def lv:LC->Nat->As->Nat->As->Nat × As
 | .z,o,_,_,A=>(o,A)
 | .rg i u d,o,_,_,A=>(Nat.lor u (mns o d),ap i o A)
 | .sq a b,o,X,R,A=>match lv b o X R A with | (m,A)=>lv a m X R A
 | .cd m a b,o,X,R,A=>match lv a o X R A with | (p,A)=>match lv b o X R A with | (q,A)=>(Nat.lor m (Nat.lor p q),A)
 | .bk i b,o,X,R,A=>lv b o ((i,o)::X) R A
 | .lp b,_,X,R,A=>match lv b 0 X R A with | (p,A)=>lv b p X R A
 | .ex i,_,X,_,A=>(ag X i,A)
 | .rt,_,_,R,A=>(R,A)
/-- what may be alive behind a piece (none: it does not end),what ends behind each region,what is alive where a block is left -/
def oL:Option Nat->Option Nat->Option Nat
 | some p,some q=>some (Nat.lor p q)
 | none,y=>y
 | x,none=>x
def eg:List (Nat × Option Nat)->Nat->Option Nat
 | [],_=>none
 | (k,v)::r,i=>bif Nat.beq k i then v else eg r i
abbrev FS:=As × List (Nat × Option Nat)
def fw (V:Nat)(L:As):LC->Nat->FS->Option Nat × FS
 | .z,i,s=>(some i,s)
 | .rg j _ d,i,s=>match Nat.lor i (Nat.land d V) with | al=>match mns al (ag L j) with | k=>(some (mns al k),ap j k s.1,s.2)
 | .sq a b,i,s=>match fw V L a i s with | (some m,s)=>fw V L b m s | r=>r
 | .cd _ a b,i,s=>match fw V L a i s with | (x,s)=>match fw V L b i s with | (y,s)=>(oL x y,s)
 | .bk j b,i,s=>match fw V L b i (s.1,(j,none)::s.2) with | (x,s)=>(oL x (eg s.2 j),s)
 | .lp b,i,s=>match fw V L b i s with
  | (some p,s)=>(none,(fw V L b (Nat.lor i p) s).2)
  | (none,s)=>(none,s)
 | .ex j,i,s=>(none,s.1,(j,oL (eg s.2 j) (some i))::s.2)
 | .rt,_,s=>(none,s)
def bits (n m:Nat):List Nat:=(List.range n).filter (Nat.testBit m ·)
def pos (vs:List Nat)(m:Nat):List Nat:=vs.zipIdx.filterMap fun x=>bif Nat.testBit m x.1 then some x.2 else none
/-- The variables and what ends. -/
def lvs (F:Func):Option (List Tmp × List (Nat × List Nat)) :=
 match F.body with
 | none=>none
 | some c =>
  let C:=Nv c
  let np:=F.params.size+F.nfree
  let R:=F.results.toList.foldl (fun s x=>match x with|.tmp t=>Nat.lor s (bs t)|.cell t _=>Nat.lor s (bs t)) 0
  let P:=Nat.sub (bs np) 1
  let V:=Nat.lor P (Nat.lor C.use R)
  let vs:=bits F.ntmps V
  some (vs,(fw V (lv C R [] R []).2 C P ([],[])).2.1.map fun x=>(x.1,pos vs x.2))
end Fi
