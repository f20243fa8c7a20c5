import Derived.Test.YtgngjdakilfmoaaGreatDoorFiD
import Derived.LoopN
import Derived.KernelRfl
set_option linter.unusedVariables false
set_option linter.unusedSimpArgs false
namespace Fi
open Go
section
theorem rE {env:List FV}{aL:List (Option Tmp)}:∀ (ts:List Tmp) (i:Nat) (vars:List FV) {j:Nat},j<i->(jC vars env (nM aL ts i))[j]?=vars[j]?
 | [],i,vars,j,h=>rfl
 | t::ts,i,vars,j,h=>by
  simp only[nM];split
  ·simp only[jC];rw[rE ts (i+1) _ ae,Qb2 ae]
  ·exact rE ts (i+1) vars ae
theorem wQ {env:List FV}{aL:List (Option Tmp)}:∀ (ts:List Tmp) (i:Nat) (vars:List FV) {j:Nat} {t:Tmp},i<=j->ts[j-i]?=some t ->
  (jC vars env (nM aL ts i))[j]?=match gu aL t with|none=>vars[j]?|some j'=>(vars.set j (env.getD j' .u))[j]?
 | [],i,vars,j,t,h,ht=>by simp at ht
 | t0::ts,i,vars,j,t,h,ht=>by
  simp only[nM];rcases Q71 h with he|hl
  ·subst he;simp only[Xi0,Qw1,Qe0]at ht;subst ht;split
   ·rename_i g hg;simp only[jC,hg];exact rE ts (i+1) _ (X10 i)
   ·rename_i hg;simp only[hg];exact rE ts (i+1) _ (X10 i)
  ·have ht':ts[j-(i+1)]?=some t:=by
    rw[show j-i=(j-(i+1))+1 by omega]at ht;simpa using ht
   split
   ·simp only[jC];rw[wQ ts (i+1) _ ae ht'];split
    ·rw[Qb2 ae]
    ·simp[Xx1]
   ·exact wQ ts (i+1) vars ae ht'
theorem AX:∀ (js:List Nat) (vars:List FV) {j:Nat} {y:FV},(mZ vars js)[j]?=some y->y=.u\/vars[j]?=some y
 | [],vars,j,y,h=>.inr h
 | i::js,vars,j,y,h=>by
  simp only[mZ]at h;rcases AX js _ h with h1|h1
  ·exact .inl h1
  ·rw[Xx1]at h1;split at h1
   ·split at h1
    ·cases h1;exact .inl rfl
    ·cases h1
   ·exact .inr h1
section tmps
variable {cx:Cx} {σ:Nat->Option FuncId} {β:Map} {I:Nat->Prop} {w:World} {n:Nat} {vars:List FV} {env:List FV} {aL:List (Option Tmp)} {a:Act}
theorem bn.out (h:bn σ β I w n cx vars aL env a)(hl:env.length=aL.length):bn σ β I w n cx (jC vars env (nM aL cx.vars 0)) [] [] a:=by
 refine⟨h.size,fun j t y h1 _ h3 => ?_,fun t j y h1=>by rw[fM]at h1;cases h1⟩;rw[wQ cx.vars 0 vars (Qr1 _) (by simpa using h1)]at h3;split at h3
 ·rename_i hno;exact h.var j t y h1 hno h3
 ·rename_i j' hj';rw[Xx1]at h3;simp only[if_true]at h3;split at h3
  ·cases h3;have h4:=(Qy1.1 (rA hj')).1;have h5:env[j']?=some (env.getD j' .u):=by
    rw[Qj0,Qa1 ae];rfl
   exact h.loc t j' _ hj' h5
  ·cases h3
theorem bn.kill (h:bn σ β I w n cx vars [] [] a)(js:List Nat):bn σ β I w n cx (mZ vars js) [] [] a:=by
 refine⟨h.size,fun j t y h1 h2 h3 => ?_,h.loc⟩;rcases AX js vars h3 with h4|h4
 ·subst h4;exact .u _
 ·exact h.var j t y h1 h2 h4
end tmps
def D_:Out->Exit
 | .norm=>.normal
 | .exit id=>.exit id
 | .ret=>.ret
def Tm (E:Env)(N:Nat):Nat->List FV->List ah->bJ:=fun g args B=>enter E g args B fun F st'=>exec E N F st'
def I8 (P:Program)(E:Env)(σ:Nat->Option FuncId)(N:Nat):Prop :=
 ∀ (cx:Cx),(∀ f g,cx.gid f=some g->σ g=some f)->∀ (c:Code) (F:aF),comp P cx c=some F->∀ (st:St) (o:Out) (st':St),exec E N F st=some (o,st') ->
  ∀ (Wr wd:Nat->Prop) (β:Map) (I:Nat->Prop) (w:World) (a:Act) (Q:Exit->Act->World->Prop),jm st.base.length st' wd->bf σ st.base.length β I Wr wd (st.base++st.loc) w->dX E σ I w ->
   bn σ β I w st.base.length cx st.vars [] [] a ->
   (∀ β' I' w' a',Ext E.mn β β' I I' Wr w w'->bf σ st.base.length β' I' Wr wd (st'.base++st'.loc) w'->bn σ β' I' w' st.base.length cx st'.vars [] [] a'->a'.defers=a.defers->Q (D_ o) a' w') ->
   c.wp P Q a w
section exec
variable {P:Program} {E:Env} {σ:Nat->Option FuncId}
theorem uj (hm:P.follows .mixedOrders=true)(hB:Bodies P E σ){N:Nat}(hrec:∀ M,M<N->kC P E σ (Tm E M)){cx:Cx}(bA:∀ f g,cx.gid f=some g->σ g=some f){id:Nat}{ops:Array Oper}{draw:Bool}
  {ks:List jE} {ap:List (Nat × Nat)} (hc:kW P cx ops.toList draw=some (ks,ap)) {st st':St} {o:Out} (hx:exec E N (.region ks (nM (ops.toList.map (·.dst)) cx.vars 0) ap) st=some (o,st')) :
  o=.norm/\∀ (Wr wd:Nat->Prop) (β:Map) (I:Nat->Prop) (w:World) (a:Act) (Q:Exit->Act->World->Prop),jm st.base.length st' wd->bf σ st.base.length β I Wr wd (st.base++st.loc) w->dX E σ I w ->
   bn σ β I w st.base.length cx st.vars [] [] a ->
   (∀ β' I' w' a',Ext E.mn β β' I I' Wr w w'->bf σ st.base.length β' I' Wr wd (st'.base++st'.loc) w'->bn σ β' I' w' st.base.length cx st'.vars [] [] a'->a'.defers=a.defers->Q .normal a' w') ->
   (Code.region id ops draw).wp P Q a w:=by
 cases N with
 | zero=>simp[exec]at hx
 | succ N =>
  simp only[exec]at hx;split at hx
  ·rename_i hap;split at hx
   ·rename_i st1 ev hr;simp only[Qe0,Qm0]at hx;obtain⟨rfl,rfl⟩:=hx;refine⟨rfl,fun Wr wd β I w a Q hmw hS hG hT hQ => ?_⟩;have hk:=lY (Qh E N) _ hr;refine I7 hm bA hB (Qh E N) (hrec N (X10 N)) hc hap hr hmw hS hG hT (fun β' I' w' a' h1 h2 h3 h4 h5=>hQ β' I' w' a' h1 h2 ?_ h5);have:=h3.out (by rw[h4,Qj1]);simp only[hk.vars];exact this
   ·cases hx
  ·cases hx
theorem wz (hm:P.follows .mixedOrders=true)(hB:Bodies P E σ)(N:Nat)(hrec:∀ M,M<N->kC P E σ (Tm E M)):∀ M,M<=N->I8 P E σ M:=by
 intro M
 induction M with
 | zero=>intro _ cx bA c F hc st o st' hx;simp[exec]at hx
 | succ M ih =>
  intro hMN cx bA c F hc st o st' hx Wr wd β I w a Q hmw hS hG hT hQ;have ih:=ih ae
  -- a step,and then another
  have chain:∀ {c1:Code} {F1:aF} {st1:St} {o1:Out} {Q1:Exit->Act->World->Prop},comp P cx c1=some F1->exec E M F1 st=some (o1,st1)->(st1.aX=true->st'.aX=true) ->
    (∀ β' I' w' a',Ext E.mn β β' I I' Wr w w'->bf σ st1.base.length β' I' Wr wd (st1.base++st1.loc) w'->dX E σ I' w'->bn σ β' I' w' st1.base.length cx st1.vars [] [] a'->a'.defers=a.defers->Q1 (D_ o1) a' w')->c1.wp P Q1 a w:=by
   intro c1 F1 st1 o1 Q1 h1 h2 h3 h4;have hk:=d9 E M _ _ _ _ h2;refine ih cx bA c1 F1 h1 st o1 st1 h2 Wr wd β I w a Q1 (hmw.back h3) hS hG hT (fun β' I' w' a' e1 e2 e3 e4=>h4 β' I' w' a' e1 ?_ (hG.mono e1.im e1.fO) ?_ e4)
   ·rw[hk.base];exact e2
   ·rw[hk.base];exact e3
  -- and the other
  have next:∀ {c1:Code} {F1:aF} {st1:St} {o1:Out} {Q1:Exit->Act->World->Prop} {β1:Map} {I1:Nat->Prop} {w1:World} {a1:Act},comp P cx c1=some F1->exec E M F1 st1=some (o1,st')->st1.base.length=st.base.length ->
    Ext E.mn β β1 I I1 Wr w w1->bf σ st1.base.length β1 I1 Wr wd (st1.base++st1.loc) w1->dX E σ I1 w1->bn σ β1 I1 w1 st1.base.length cx st1.vars [] [] a1->a1.defers=a.defers ->
    (∀ β' I' w' a',Ext E.mn β β' I I' Wr w w'->bf σ st.base.length β' I' Wr wd (st'.base++st'.loc) w'->bn σ β' I' w' st.base.length cx st'.vars [] [] a'->a'.defers=a.defers->Q1 (D_ o1) a' w')->c1.wp P Q1 a1 w1:=by
   intro c1 F1 st1 o1 Q1 β1 I1 w1 a1 h1 h2 h3 h4 h5 h6 h7 h8 h9;refine ih cx bA c1 F1 h1 st1 o1 st' h2 Wr wd β1 I1 w1 a1 Q1 (by rw[h3];exact hmw) h5 h6 h7 (fun β' I' w' a' e1 e2 e3 e4=>h9 β' I' w' a' (h4.trans e1) ?_ ?_ (e4.trans h8))
   ·rw[<-h3];exact e2
   ·rw[<-h3];exact e3
  cases c<;>simp only[comp]at hc
  case skip =>
   cases hc;simp only[exec,Qe0,Qm0]at hx;obtain⟨rfl,rfl⟩:=hx;exact wp_skip (hQ β I w a (Ext.refl _ _ _ _) hS hT rfl)
  case region id ops draw =>
   split at hc
   ·rename_i ks ap hks;split at hc
    ·cases hc;obtain⟨rfl,hmain⟩:=uj (id:=id) hm hB (fun M' h=>hrec M' ae) bA hks hx;exact hmain Wr wd β I w a Q hmw hS hG hT hQ
    ·rename_i js _;cases hc;simp only[exec]at hx;split at hx
     ·rename_i st1 hx1;obtain⟨_,hmain⟩:=uj (id:=id) hm hB (fun M' h=>hrec M' ae) bA hks hx1;cases M with
      | zero=>simp[exec]at hx
      | succ M =>
       simp only[exec,Qe0,Qm0]at hx;obtain⟨rfl,rfl⟩:=hx;exact hmain Wr wd β I w a Q hmw hS hG hT (fun β' I' w' a' h1 h2 h3 h4=>hQ β' I' w' a' h1 h2 (h3.kill _) h4)
     ·rename_i hne;obtain⟨rfl,_⟩:=uj (id:=id) hm hB (fun M' h=>hrec M' ae) bA hks hx;exact absurd hx (hne _)
   ·cases hc
  case seq x y =>
   split at hc
   ·rename_i F1 F2 hF1 hF2;cases hc;simp only[exec]at hx;split at hx
    ·rename_i st1 hx1;have hk:=d9 E M _ _ _ _ hx;have hk1:=d9 E M _ _ _ _ hx1;exact wp_seq (chain hF1 hx1 hk.aX (fun β1 I1 w1 a1 e1 e2 e3 e4 e5=>next hF2 hx hk1.base e1 e2 e3 e4 e5 hQ))
    ·rename_i r hne;refine wp_seq (chain hF1 hx (fun h=>h) (fun β1 I1 w1 a1 e1 e2 e3 e4 e5 => ?_));have hk1:=d9 E M _ _ _ _ hx;rw[hk1.base]at e2 e4;cases o with
     | norm=>exact absurd hx (hne _)
     | exit id=>exact hQ β1 I1 w1 a1 e1 e2 e4 e5
     | ret=>exact hQ β1 I1 w1 a1 e1 e2 e4 e5
   ·cases hc
  case cond x c1 c2 =>
   split at hc
   ·rename_i y F1 F2 hy hF1 hF2;cases hc;simp only[exec]at hx;split at hx
    ·rename_i t ht;have hr:=hT.args (P:=P) bA hG (st:=st) rfl rfl [x] _ x y _ aC hy ht;have hev:a.eval x=.bool t:=by
      generalize hz:a.eval x=z at hr;cases hr with|d hr=>cases hr;rfl
     refine wp_cond hev ?_;cases t
     ·exact chain hF2 hx (fun h=>h) (fun β1 I1 w1 a1 e1 e2 e3 e4 e5=>by
       have hk1:=d9 E M _ _ _ _ hx;rw[hk1.base]at e2 e4;exact hQ β1 I1 w1 a1 e1 e2 e4 e5)
     ·exact chain hF1 hx (fun h=>h) (fun β1 I1 w1 a1 e1 e2 e3 e4 e5=>by
       have hk1:=d9 E M _ _ _ _ hx;rw[hk1.base]at e2 e4;exact hQ β1 I1 w1 a1 e1 e2 e4 e5)
    ·cases hx
   ·cases hc
  case block id c1 =>
   split at hc
   ·rename_i F1 hF1;cases hc;simp only[exec]at hx;split at hx
    ·rename_i id' st1 hx1;have hk1:=d9 E M _ _ _ _ hx1;refine wp_block (chain hF1 hx1 (fun h=>by split at hx<;>(cases hx;exact h)) (fun β1 I1 w1 a1 e1 e2 e3 e4 e5 => ?_));rw[hk1.base]at e2 e4;simp only[D_,Exit.inBlock];split at hx<;>rename_i hid<;>simp only[Qe0,Qm0]at hx<;>obtain⟨rfl,rfl⟩:=hx
     ·rw[if_pos hid];exact hQ β1 I1 w1 a1 e1 e2 e4 e5
     ·rw[if_neg hid];exact hQ β1 I1 w1 a1 e1 e2 e4 e5
    ·rename_i hne;have hk1:=d9 E M _ _ _ _ hx;refine wp_block (chain hF1 hx (fun h=>h) (fun β1 I1 w1 a1 e1 e2 e3 e4 e5 => ?_));rw[hk1.base]at e2 e4;cases o with
     | norm=>exact hQ β1 I1 w1 a1 e1 e2 e4 e5
     | exit id'=>exact absurd hx (hne _ _)
     | ret=>exact hQ β1 I1 w1 a1 e1 e2 e4 e5
   ·cases hc
  case loop c1 =>
   split at hc
   ·rename_i F1 hF1;cases hc
    -- rounds,by fuel
    have rounds:∀ K,K<=M+1->∀ (st1:St) (β1:Map) (I1:Nat->Prop) (w1:World) (a1:Act),exec E K (.loop F1) st1=some (o,st')->st1.base.length=st.base.length->Ext E.mn β β1 I I1 Wr w w1 ->
      bf σ st1.base.length β1 I1 Wr wd (st1.base++st1.loc) w1->dX E σ I1 w1->bn σ β1 I1 w1 st1.base.length cx st1.vars [] [] a1->a1.defers=a.defers->Code.rounds P c1 Q K a1 w1:=by
     intro K
     induction K with
     | zero=>intro _ st1 β1 I1 w1 a1 h1;simp[exec]at h1
     | succ K ihK =>
      intro hK st1 β1 I1 w1 a1 h1 h2 h3 h4 h5 h6 h7;have hE:I8 P E σ K:=wz hm hB K (fun M' h=>hrec M' ae) K (Qd2 _);simp only[exec]at h1;rw[rounds_succ];split at h1
      ·rename_i st2 hx1;have hk2:=d9 E K _ _ _ _ h1;have hk1:=d9 E K _ _ _ _ hx1;refine hE cx bA c1 F1 hF1 st1 _ st2 hx1 Wr wd β1 I1 w1 a1 _ ?_ h4 h5 h6 (fun β' I' w' a' e1 e2 e3 e4 => ?_)
       ·rw[h2];exact hmw.back hk2.aX
       ·exact ihK ae st2 β' I' w' a' h1 (hk1.base.trans h2) (h3.trans e1) (by rw[hk1.base];exact e2) (h5.mono e1.im e1.fO) (by rw[hk1.base];exact e3) (e4.trans h7)
      ·rename_i hne;refine hE cx bA c1 F1 hF1 st1 _ st' h1 Wr wd β1 I1 w1 a1 _ (by rw[h2];exact hmw) h4 h5 h6 (fun β' I' w' a' e1 e2 e3 e4 => ?_);rw[h2]at e2 e3;cases o with
       | norm=>exact absurd h1 (hne _)
       | exit id'=>exact hQ β' I' w' a' (h3.trans e1) e2 e3 (e4.trans h7)
       | ret=>exact hQ β' I' w' a' (h3.trans e1) e2 e3 (e4.trans h7)
    exact wp_loop_rounds (M+1) (rounds (M+1) (Qd2 _) st β I w a hx rfl (Ext.refl _ _ _ _) hS hG hT rfl)
   ·cases hc
  case exit id =>
   cases hc;simp only[exec,Qe0,Qm0]at hx;obtain⟨rfl,rfl⟩:=hx;exact wp_exit (hQ β I w a (Ext.refl _ _ _ _) hS hT rfl)
  case ret =>
   cases hc;simp only[exec,Qe0,Qm0]at hx;obtain⟨rfl,rfl⟩:=hx;exact wp_ret (hQ β I w a (Ext.refl _ _ _ _) hS hT rfl)
  all_goals cases hc
end exec
end
section
def nL (P:Program)(E:Env)(σ:Nat->Option FuncId):Prop :=
 ∀ g F,E.fn g=some F->∀ f,σ g=some f->∃ fn cx,P.funcs[f]?=some fn/\iU P cx fn=some F/\∀ f' g',cx.gid f'=some g'->σ g'=some f'
def ja (P:Program)(E:Env)(σ:Nat->Option FuncId):Prop :=
 (∀ g p,E.jq g=some p->∀ args ds v,jN args=some ds->p ds=some v->iV P E σ g args [] (.d v,none)) /\
 ∀ g p,E.iO g=some p->∀ args B r,p args B=some r->iV P E σ g args B r
theorem LF {P:Program}{w:World}{α β:Type}{g:α->Sem β}:∀ {l:List α} {vs:List β},vs.length=l.length->(∀ (i:Nat) (x:α) (v:β),l[i]?=some x->vs[i]?=some v->(g x).run P w=.ok v w)->(l.mapM g).run P w=.ok vs w
 | [],[],_,_=>rfl
 | [],_::_,h,_=>by simp at h
 | _::_,[],h,_=>by simp at h
 | x::l,v::vs,h,hg=>by
  rw[List.mapM_cons];have h1:=hg 0 x v rfl rfl;have h2:=LF (g:=g) (l:=l) (vs:=vs) (by simpa using h) (fun i y u hy hu=>hg (i+1) y u (by simpa using hy) (by simpa using hu));simp only[Sem.run_bind,h1,Result.andThen_ok,h2,Sem.run_pure]
def nN (vs:List Value):Value:=match vs with
 | [v]=>v
 | vs=>.tuple vs.toArray
section top
variable {P:Program} {E:Env} {σ:Nat->Option FuncId}
def Qk (P:Program)(tmps:Array Value)(w:World)(rv:ResultVar)(v:Value):Prop :=
 match rv with
 | .tmp t=>v=tmps.getD t undef
 | .cell t ty=>∃ ad,tmps.getD t undef=.pointer (some ad)/\(loadVar ty ad).run P w=.ok v w
theorem Aw {fn:Func}{tmps:Array Value}{w:World}{vs:List Value}(hl:vs.length=fn.results.toList.length)(h:∀ (i:Nat) (rv:ResultVar) (v:Value),fn.results.toList[i]?=some rv->vs[i]?=some v->Qk P tmps w rv v) :
  (results fn tmps).run P w=.ok (nN vs) w:=by
 unfold results;rw[Array.mapM_eq_mapM_toList];simp only[Sem.run_bind,Sem.run_map,Sem.run_pure];rw[LF hl (fun i rv v h1 h2 => ?_)]
 ·simp only[Result.andThen_ok]
  congr 1
  match vs with
  | []=>rfl
  | [v]=>rfl
  | _::_::_=>simp[nN]
 ·have:=h i rv v h1 h2;cases rv with
  | tmp t=>simp only[Qk]at this;subst this;rfl
  | cell t ty =>
   obtain⟨ad,h3,h4⟩:=this;simp only[h3,asAddr,Sem.run_bind,Sem.run_pure,Result.andThen_ok];exact h4
theorem xS {cx:Cx}{β:Map}{I Wr wd:Nat->Prop}{w:World}{st:St}{a:Act}(hS:bf σ st.base.length β I Wr wd (st.base++st.loc) w)(hT:bn σ β I w st.base.length cx st.vars [] [] a) :
  ∀ {l:List ResultVar} {rs:List Res} {xs:List FV},oF P cx l=some rs->mo st rs=some xs ->
   ∃ vs:List Value,vs.length=l.length/\(∀ (i:Nat) (rv:ResultVar) (v:Value),l[i]?=some rv->vs[i]?=some v->Qk P a.tmps w rv v)/\gW σ β I w st.base.length xs vs
 | [],rs,xs,hc,hv=>by
  simp[oF]at hc;subst hc;simp[mo]at hv;subst hv;exact⟨[],rfl,fun i rv v h=>by simp at h,rfl,fun i c x h=>by simp at h⟩
 | .tmp t::l,rs,xs,hc,hv=>by
  simp only[oF]at hc;split at hc<;>simp at hc;subst hc;rename_i j s hj hs;simp only[mo]at hv;split at hv<;>simp at hv;subst hv;rename_i y ys hy hys;obtain⟨vs,g1,g2,g3⟩:=xS hS hT hs hys;simp only[GY]at hy;have hr:=hT.var j t y (oK hj) (fM _) hy;refine⟨a.tmps.getD t undef::vs,by simp[g1],fun i rv v h1 h2 => ?_,by simp[g3.1],fun i c x h1 h2 => ?_⟩
  ·cases i with
   | zero=>simp at h1 h2;subst h1;subst h2;simp[Qk]
   | succ i=>exact g2 i rv v (by simpa using h1) (by simpa using h2)
  ·cases i with
   | zero =>
    simp only[Qw1,Qe0]at h1 h2;subst h1;subst h2;exact hr
   | succ i=>exact g3.2 i c x (by simpa using h1) (by simpa using h2)
 | .cell t ty::l,rs,xs,hc,hv=>by
  simp only[oF]at hc;split at hc<;>simp at hc;subst hc;rename_i j g m s hj hg hm hs;simp only[mo]at hv;split at hv<;>simp at hv;subst hv;rename_i y ys hy hys;obtain⟨vs,g1,g2,g3⟩:=xS hS hT hs hys;simp only[GY]at hy;split at hy
  ·rename_i q off hq;split at hy
   ·rename_i cs SS;have hr:=hT.var j t _ (oK hj) (fM _) hq;generalize hz:a.eval (.tmp t)=z at hr;cases hr with
    | @r _ _ b bo cap hβ =>
     rw[St.fP]at SS;obtain⟨rfl,c,e,h1,h2,h3⟩:=hS.box _ cs b bo cap SS hβ;obtain⟨v,h4,h5⟩:=Ll hg hm h1 h2 h3 hy;refine⟨v::vs,by simp[g1],fun i rv u h6 h7 => ?_,by simp[g3.1],fun i c x h6 h7 => ?_⟩
     ·cases i with
      | zero =>
       simp only[Qw1,Qe0]at h6 h7;subst h6;subst h7;exact⟨_,hz,by simpa using h4⟩
      | succ i=>exact g2 i rv u (by simpa using h6) (by simpa using h7)
     ·cases i with
      | zero =>
       simp only[Qw1,Qe0]at h6 h7;subst h6;subst h7;exact h5
      | succ i=>exact g3.2 i c x (by simpa using h6) (by simpa using h7)
   ·cases hy
  ·cases hy
theorem uU {β:Map}{I:Nat->Prop}{w:World}{n:Nat}{ys:List FV}{vs:List Value}(h:gW σ β I w n ys vs):aI σ β I w n (oneOf ys) (nN vs):=by
 match ys,vs,h with
 | [y],[v],h=>exact h.2 0 y v rfl rfl
 | [],[],h=>exact aI.rH (cs:=[]) (vs:=#[]) rfl (fun i c x h=>by simp at h)
 | _::_::_,_::_::_,h =>
  simp only[oneOf,nN];exact aI.rH (by simpa using h.1) (fun i c x h1 h2=>h.2 i c x h1 (by simpa using h2))
 | [],_::_,h=>exact absurd h.1 aC
 | [_],[],h=>exact absurd h.1 aC
 | [_],_::_::_,h=>exact absurd h.1 aC
 | _::_::_,[],h=>exact absurd h.1 aC
 | _::_::_,[_],h=>exact absurd h.1 aC
theorem rF {N:Nat}(hE:I8 P E σ N){f:FuncId}{fn:Func}{cx:Cx}{F:bO}(hf:P.funcs[f]?=some fn)(hc:iU P cx fn=some F)(bA:∀ f' g',cx.gid f'=some g'->σ g'=some f'){args:List FV}{B:List ah}
  (hnp:args.length=F.np) {o:Out} {st':St} (hx:exec E N F.body {vars:=args++List.replicate (F.nv-F.np) .u,base:=B,loc:=[],aX:=false}=some (o,st')) (ho:∀ id,o≠.exit id) {xs:List FV} (hres:mo st' F.res=some xs)
  {Wr wd:Nat->Prop} {β:Map} {I:Nat->Prop} {w:World} {bz:Array Value} (hmw:jm B.length st' wd) (hS:bf σ B.length β I Wr wd B w) (hA:gW σ β I w B.length args bz.toList) (hG:dX E σ I w) {R:Ending->World->Prop}
  (hR:∀ β' I' w' vs,Ext E.mn β β' I I' Wr w w'->bf σ st'.base.length β' I' Wr wd (st'.base++st'.loc) w'->gW σ β' I' w' st'.base.length xs vs->R (.returned (nN vs)) w') :
  Calls P f bz w R:=by
 unfold iU at hc;split at hc
 ·cases hc
 ·rename_i c hb;split at hc
  ·rename_i b rs hcb hcr;simp only at hc;split at hc<;>simp only[Qe0,reduceCtorEq]at hc;subst hc;rename_i hh;obtain⟨h1,h2,h3,h4⟩:=hh;have hvs:bz.size=fn.params.size+fn.nfree:=by
    have:=hA.1;simp only[Xd1]at this;rw[this];exact hnp
   simp only at hnp hx;have hlt:∀ j,j<fn.params.size+fn.nfree->cx.vars[j]?=some j:=by
    intro j hj;have h5:(cx.vars.take (fn.params.size+fn.nfree))[j]?=some j:=by rw[h1,Xs0 hj]
    rw[Qp0,if_pos hj]at h5;exact h5
   have hle:fn.params.size+fn.nfree<=fn.ntmps:=by
    rcases Qr2 (fn.params.size+fn.nfree) with h0|h0
    ·omega
    ·have h5:=hlt (fn.params.size+fn.nfree-1) ae;have h6:fn.params.size+fn.nfree-1<cx.ntmps:=by simpa using Qh2.1 h4 _ (Qa2 h5)
     rw[h3]at h6;omega
   refine calls_of_wp hf hb ?_;have hk:=d9 E N _ _ _ _ hx;refine hE cx bA c b hcb _ o st' hx Wr wd β I w _ _ hmw (by simpa using hS) hG ⟨?_,fun j t y h5 _ h6 => ?_,fun t j y h5=>by rw[fM]at h5;cases h5⟩ (fun β' I' w' a' e1 e2 e3 e4 => ?_)
   ·simp only[Array.size_append,Array.size_replicate];omega
   ·rcases Qg0 j (fn.params.size+fn.nfree) with hj|hj
    ·rw[hlt j hj]at h5;cases h5;rw[Qa0 ae]at h6;have h7:bz.toList[j]?=some (bz[j]'(by omega)):=by rw[Qt0,Qh0 ae]
     have h8:=hA.2 j y _ h6 h7;have h9:(Act.eval {tmps:=bz++Array.replicate (fn.ntmps-bz.size) undef,defers:=[]} (.tmp j))=bz[j]'(by omega):=by
      simp only[Act.eval,Qs2];rw[Xj0 ae,Qh0 ae];rfl
     rw[h9];exact h8
    ·rw[Qc0 ae,Xh1]at h6;split at h6
     ·cases h6;exact .u _
     ·cases h6
   ·rw[<-hk.base]at e2 e3;obtain⟨vs,g1,g2,g3⟩:=xS (P:=P) e2 e3 hcr hres;have hend:a'.defers=[]/\∃ v,(results fn a'.tmps).run P w'=.ok v w'/\R (.returned v) w':=⟨e4,_,Aw g1 g2,hR β' I' w' vs e1 e2 g3⟩
    cases o with
    | norm=>exact hend
    | ret=>exact hend
    | exit id=>exact absurd rfl (ho id)
  ·cases hc
theorem OI {F:bO}{st:St}{r:FV × Option (List ah)}(h:finish F st=some r):∃ xs,mo st F.res=some xs/\((F.ref=true/\r=fD (oneOf xs) st)\/∃ ys,gN st xs=some ys/\r=fD (oneOf ys) (aK st (xs.flatMap FV.rows))):=by
 unfold finish at h;split at h
 ·cases h
 ·rename_i xs hxs;split at h
  ·rename_i hF;cases h;exact⟨xs,hxs,.inl ⟨hF,rfl⟩⟩
  ·split at h
   ·cases h
   ·rename_i ys hys;cases h;exact⟨xs,hxs,.inr ⟨ys,hys,rfl⟩⟩
theorem OJ (hF:nL P E σ)(hP:ja P E σ){N:Nat}(hE:I8 P E σ N):kC P E σ (Tm E N):=by
 intro g args B r hr;have afJ:Given E g:=by
  have hr:=hr;unfold Tm enter at hr;split at hr
  ·rename_i p hp;exact .inr (.inl (by rw[hp];rfl))
  ·split at hr
   ·split at hr
    ·rename_i p hp;exact .inr (.inr (by rw[hp];rfl))
    ·cases hr
   ·rename_i F hFn;exact .inl (by rw[hFn];rfl)
 refine⟨afJ,?_⟩;unfold Tm enter at hr;split at hr
 ·rename_i p hp;split at hr
  ·rename_i ds hds;split at hr
   ·rename_i v hv;cases hr;exact hP.1 g p hp args ds v hds hv
   ·cases hr
  ·cases hr
 ·split at hr
  ·split at hr
   ·rename_i p hp;split at hr
    ·rename_i v B' hpv;split at hr
     ·cases hr;exact hP.2 g p hp args B _ hpv
     ·cases hr
    ·exact hP.2 g p hp args B _ hr
   ·cases hr
  ·rename_i F hFn;split at hr
   ·rename_i hnp;split at hr
    ·cases hr
    ·rename_i o st' hne hx;have ho:∀ id,o≠.exit id:=fun id e=>hne id e
     obtain⟨xs,h1,h3⟩:=OI hr;have hk:=d9 E N _ _ _ _ hx;rcases h3 with ⟨_,h3⟩|⟨ys,h2,h3⟩
     ·unfold fD at h3;split at h3
      ·rename_i LY;simp only[Qd0,Qt1]at LY;subst h3;intro f hσ β I w bz hS hA hG;obtain⟨fn,cx,hf,hc,bA⟩:=hF g F hFn f hσ;refine rF hE hf hc bA hnp hx ho h1 ⟨fun k h=>h,fun hd=>by rw[LY.2]at hd;cases hd⟩ hS hA hG (fun β' I' w' vs e1 e2 e3 => ?_);have hl:=uU e3;obtain⟨z,hz⟩:∃ z,oneOf xs=.d z:=by
        cases hy:oneOf xs<;>rw[hy]at LY<;>simp[kJ]at LY;exact⟨_,rfl⟩
       rw[hz]at hl;cases hl with
       | d hl=>exact⟨nN vs,z,I',rfl,hz,hl,e1.im,fun b hb=>e1.iH b hb,e2.mf,e1.size,fun b hb=>e1.keepW b hb ae,e1.os,e1.tape,e1.output,e1.drawn⟩
      ·subst h3;intro f hσ β I Wr w bz hS hA hG;obtain⟨fn,cx,hf,hc,bA⟩:=hF g F hFn f hσ;refine rF hE hf hc bA hnp hx ho h1 ⟨fun _ _=>trivial,fun _ _=>trivial⟩ hS hA hG (fun β' I' w' vs e1 e2 e3 => ?_);have hl:=uU e3;refine⟨nN vs,β',I',rfl,e1,fun n' wd' => ?_,fun n'=>hl.az n'⟩;exact e2.old e2.kG (fun k o' b bo cap h4 h5 _=>(e2.wr k o' b bo cap h4 h5).1 trivial)
     have hkf:=Kept.aK (xs.flatMap FV.rows) st';unfold fD at h3;split at h3
     ·rename_i LY;simp only[Qd0,Qt1]at LY;subst h3;intro f hσ β I w bz hS hA hG;obtain⟨fn,cx,hf,hc,bA⟩:=hF g F hFn f hσ;have hnd:st'.aX=false:=by
       cases hd:st'.aX with
       | false=>rfl
       | true=>rw[hkf.aX hd]at LY;exact absurd LY.2 aC
      refine rF hE hf hc bA hnp hx ho h1 ⟨fun k h=>h,fun hd=>by rw[hnd]at hd;cases hd⟩ hS hA hG (fun β' I' w' vs e1 e2 e3 => ?_);obtain⟨I1,hfz⟩:=iY (xs.flatMap FV.rows) e2;have hl:=uU (gY e2 h2 e3 hfz.im (hfz.EC e2));obtain⟨z,hz⟩:∃ z,oneOf ys=.d z:=by
       cases hy:oneOf ys<;>rw[hy]at LY<;>simp[kJ]at LY;exact⟨_,rfl⟩
      rw[hz]at hl;cases hl with
      | d hl =>
       refine⟨nN vs,z,I1,rfl,hz,hl,fun b hb=>hfz.im b (e1.im b hb),fun b hb => ?_,hfz.qR.mf,e1.size,fun b hb=>e1.keepW b hb ae,e1.os,e1.tape,e1.output,e1.drawn⟩;rcases hfz.iH b hb with h|⟨k,o',bo,cap,h4,h5,h6⟩
       ·exact e1.iH b h
       ·rcases h6 with h6|h6
        ·rw[h6]at LY;exact absurd LY.2 aC
        ·exact .inr ((e2.wr k o' b bo cap h4 h5).1 (by rw[hk.base]at h6;exact h6))
     ·subst h3;intro f hσ β I Wr w bz hS hA hG;obtain⟨fn,cx,hf,hc,bA⟩:=hF g F hFn f hσ;refine rF hE hf hc bA hnp hx ho h1 ⟨fun _ _=>trivial,fun _ _=>trivial⟩ hS hA hG (fun β' I' w' vs e1 e2 e3 => ?_);obtain⟨I1,hfz⟩:=iY (xs.flatMap FV.rows) e2;have hl:=uU (gY e2 h2 e3 hfz.im (hfz.EC e2));refine⟨nN vs,β',I1,rfl,?_,fun n' wd' => ?_,fun n' => ?_⟩
      ·refine⟨e1.bm,fun b hb=>hfz.im b (e1.im b hb),fun b hb => ?_,e1.size,e1.fO,e1.keepW,e1.os,e1.tape,e1.output,e1.drawn⟩;rcases hfz.iH b hb with h|⟨k,o',bo,cap,h4,h5,_⟩
       ·exact e1.iH b h
       ·exact .inr ((e2.wr k o' b bo cap h4 h5).1 trivial)
      ·rw[hkf.base];exact hfz.qR.old hfz.qR.kG (fun k o' b bo cap h4 h5 _=>(hfz.qR.wr k o' b bo cap h4 h5).1 trivial)
      ·rw[hkf.base];exact hl.az n'
    ·cases hr
   ·cases hr
theorem qQ (hm:P.follows .mixedOrders=true)(hB:Bodies P E σ)(hF:nL P E σ)(hP:ja P E σ)(N:Nat):kC P E σ (Tm E N):=by
 induction N using Nat.strongRecOn with
 | ind N ih=>exact OJ hF hP (wz hm hB N ih N (Qd2 _))
theorem Gi (hm:P.follows .mixedOrders=true)(hB:Bodies P E σ)(hF:nL P E σ)(hP:ja P E σ){N g:Nat}{args:List FV}{y:FV}(h:cz E N g args []=some (y,none)){f:FuncId}(hσ:σ g=some f)
  {I:Nat->Prop} {w:World} {bz:Array Value} (hI:∀ b,I b->b<w.heap.size) (hA:gW σ (fun _ _=>none) I w 0 args bz.toList) (hG:dX E σ I w) :
  Calls P f bz w fun e w'=>∃ x z I',e=.returned x/\y=.d z/\bE σ I' w' z x/\Grow E.mn I I' w w' :=
 (qQ hm hB hF hP N g args [] _ h).2 f hσ _ I w bz (.empty _ hI (fun _ h=>h)) hA hG
end top
end
def sg (n:Nat)(g:Nat):Option Nat:=bif Nat.blt g n then some g else none
def kU (E:Env)(no:List Nat):Bool:=no.all fun g=>(E.fn g).isNone&&(E.jq g).isNone&&(E.iO g).isNone
theorem anT {c:Bool}{A B:Option bO}{F:bO}{Q:Prop}(hA:A=some F->Q)(hB:B=some F->Q):(bif c then A else B)=some F->Q:=by
 cases c
 ·exact hB
 ·exact hA
theorem aeU {g k:Nat}{fk F:bO}{Q:Prop}(h:g=k->fk=F->Q):(bif Nat.beq g k then some fk else none)=some F->Q:=by
 intro hb;cases hc:Nat.beq g k with
 | false=>rw[hc]at hb;cases hb
 | true =>
  rw[hc]at hb;simp only[cond_true,Qe0]at hb;exact h (Ql0 hc) hb
def aeT (T:List Nat)(f:FuncId):Option Nat:=T[f]?
def LG (T:List Nat)(g:Nat):Option FuncId:=T.findIdx? (Nat.beq g)
def nodupB:List Nat->Bool
 | []=>true
 | x::r => !(r.any (Nat.beq x))&&nodupB r
theorem Ql {T:List Nat}{g f:Nat}(h:LG T g=some f):T[f]?=some g:=by
 unfold LG at h;rw[Qu2]at h;obtain⟨h1,h2,_⟩:=h;rw[Qa1 h1,<-Ql0 h2]
theorem Qm:∀ {T:List Nat} {g f:Nat},nodupB T=true->T[f]?=some g->LG T g=some f
 | [],_,_,_,h=>by simp at h
 | x::r,g,f,hn,h=>by
  simp only[nodupB,Qd0,Qt1]at hn;unfold LG;rw[Xv0];cases f with
  | zero =>
   simp only[Qw1,Qe0]at h;subst h;simp
  | succ f =>
   simp only[Xl1]at h;have hne:Nat.beq g x=false:=by
    cases hb:Nat.beq g x with
    | false=>rfl
    | true =>
     have:=Ql0 hb;subst this;rw[Xe1.2 ⟨g,Qa2 h,aC⟩]at hn;exact absurd hn.1 aC
   rw[hne];have:=Qm hn.2 h;unfold LG at this;simp[this]
def I9 (P:Program)(T no:List Nat):Bool :=
 T.zipIdx.all fun x=>(no.any fun k=>Nat.beq x.1 k)||match P.funcs[x.2]? with
  | some fn => fn.body.isSome && !(fn.name == "runtime.NumGoroutine")
  | none=>false
theorem ace {P:Program}{E:Env}{T no:List Nat}(h:I9 P T no=true)(h2:kU E no=true):Bodies P E (LG T):=by
 intro g f hg hf;have hat:=Ql hf;have h3:=Qh2.1 h (g,f) (by rw[Xq2];exact hat);have hno:(no.any fun k=>Nat.beq g k)=false:=by
  cases ha:no.any fun k=>Nat.beq g k with
  | false=>rfl
  | true =>
   obtain⟨k,hk,he⟩:=Xe1.1 ha;have:=Ql0 he;subst this;have h4:=Qh2.1 h2 g hk;simp only[Qd0,Option.isNone_iff_eq_none]at h4;rcases hg with hg|hg|hg
   ·rw[h4.1.1]at hg;cases hg
   ·rw[h4.1.2]at hg;cases hg
   ·rw[h4.2]at hg;cases hg
 simp only[hno,Xc1]at h3;split at h3
 ·rename_i fn hfn;simp only[Qd0,Qt1]at h3;obtain⟨c,hc⟩:=Q62.1 h3.1;exact⟨fn,c,hfn,hc,h3.2⟩
 ·cases h3
def OL (T X:List Nat)(g:Nat):Option FuncId:=if X.any (Nat.beq g) then LG T (g-2000) else LG T g
def an3 (T Y:List Nat)(f:FuncId):Option Nat:=match T[f]? with
 | some g=>if Y.any (Nat.beq (g+2000)) then some (g+2000) else some g
 | none=>none
def EL (T X no:List Nat):Bool:=X.all fun g => !(T.any (Nat.beq g)) && !(no.any (Nat.beq (g-2000)))
theorem I_ {X:List Nat}{g:Nat}:X.any (Nat.beq g)=true↔g ∈ X:=by
 rw[Xe1];exact⟨fun⟨x,hx,he⟩=>Ql0 he ▸ hx,fun h=>⟨g,h,aC⟩⟩
theorem YI {T X no:List Nat}(h:EL T X no=true){g:Nat}(hg:g ∈ T):X.any (Nat.beq g)=false:=by
 cases hb:X.any (Nat.beq g) with
 | false=>rfl
 | true =>
  rw[I_]at hb;have:=Qh2.1 h g hb;simp only[Qd0,Qt1]at this;rw[I_.2 hg]at this;cases this.1
theorem BH {T X no:List Nat}(hn:nodupB T=true)(ht:EL T X no=true){f g:Nat}(h:T[f]?=some g):OL T X g=some f:=by
 unfold OL;rw[YI ht (Qa2 h),if_neg aC];exact Qm hn h
theorem aja {T X Y no:List Nat}(hn:nodupB T=true)(ht:EL T X no=true)(hY:(Y.all fun y=>X.any (Nat.beq y))=true){f g:Nat}(h:an3 T Y f=some g):OL T X g=some f:=by
 unfold an3 at h;split at h
 ·rename_i g' hg';split at h
  ·rename_i hy;cases h;have hx:X.any (Nat.beq (g'+2000))=true:=Qh2.1 hY (g'+2000) (I_.1 hy);unfold OL;rw[if_pos hx,Qw2];exact Qm hn hg'
  ·cases h;exact BH hn ht hg'
 ·cases h
theorem acf {P:Program}{E:Env}{T X no:List Nat}(h:I9 P T no=true)(ht:EL T X no=true)(h2:kU E no=true):Bodies P E (OL T X):=by
 intro g f hg hf;unfold OL at hf;split at hf
 ·rename_i hx;have hat:=Ql hf;have h3:=Qh2.1 h (g-2000,f) (by rw[Xq2];exact hat);have hno:=Qh2.1 ht g (I_.1 hx);simp only[Qd0,Qt1]at hno;have aeJ:(no.any fun k=>Nat.beq (g-2000) k)=false:=hno.2;simp only[aeJ,Xc1]at h3;split at h3
  ·rename_i fn hfn;simp only[Qd0,Qt1]at h3;obtain⟨c,hc⟩:=Q62.1 h3.1;exact⟨fn,c,hfn,hc,h3.2⟩
  ·cases h3
 ·exact ace h h2 g f hg hf
theorem akN {P:Program}{T X no:List Nat}(hn:nodupB T=true)(ht:EL T X no=true){g k j:Nat}{F fk:bO}{cx:Cx}{fn:Func}(hg:g=k)(hF:fk=F)(hk:iU P cx fn=some fk)(hf:P.funcs[j]?=some fn)(hj:T[j]?=some k)(hc:cx.gid=aeT T) :
  ∀ f,OL T X g=some f->∃ fn cx,P.funcs[f]?=some fn/\iU P cx fn=some F/\∀ f' g',cx.gid f'=some g'->OL T X g'=some f':=by
 intro f h;subst hg;subst hF;have:f=j:=by
  rw[BH hn ht hj]at h;exact(Qy0 h).symm
 subst this;refine⟨fn,cx,hf,hk,fun f' g' h' => ?_⟩;rw[hc]at h';exact BH hn ht h'
def yes (r:bJ):Bool:=match r with
 | some (.d (.v (.bool b)),none)=>b
 | _=>false
theorem adA {r:bJ}(h:yes r=true):r=some (.d (.v (.bool true)),none):=by
 unfold yes at h;split at h
 ·subst h;rfl
 ·cases h
section
theorem GN (k:IntKind)(a b:Int):∃ z:Int,z=k.wrap (BitVec.ofInt k.bits a ||| BitVec.ofInt k.bits b).toNat:=⟨_,rfl⟩
theorem EM (k:IntKind)(a b:Int):∃ z:Int,z=k.wrap (BitVec.ofInt k.bits a &&& BitVec.ofInt k.bits b).toNat:=⟨_,rfl⟩
theorem EN (k:IntKind)(a b:Int):∃ z:Int,z=k.wrap (BitVec.ofInt k.bits a ^^^ BitVec.ofInt k.bits b).toNat:=⟨_,rfl⟩
theorem EO (k:IntKind)(a b:Int):∃ z:Int,z=k.wrap (a*2 ^ (min b.toNat k.bits)):=⟨_,rfl⟩
noncomputable def Mh (k:IntKind) (a b:Int):Int:=Classical.choose (EO k a b)
theorem Be (k:IntKind)(a b:Int):Mh k a b=k.wrap (a*2 ^ (min b.toNat k.bits)):=Classical.choose_spec (EO k a b)
noncomputable def BU (k:IntKind) (a b:Int):Int:=Classical.choose (GN k a b)
noncomputable def nY (k:IntKind) (a b:Int):Int:=Classical.choose (EM k a b)
noncomputable def afK (k:IntKind) (a b:Int):Int:=Classical.choose (EN k a b)
theorem yP (k:IntKind)(a b:Int):BU k a b=k.wrap (BitVec.ofInt k.bits a ||| BitVec.ofInt k.bits b).toNat:=Classical.choose_spec (GN k a b)
theorem Bo (k:IntKind)(a b:Int):nY k a b=k.wrap (BitVec.ofInt k.bits a &&& BitVec.ofInt k.bits b).toNat:=Classical.choose_spec (EM k a b)
theorem acg (k:IntKind)(a b:Int):afK k a b=k.wrap (BitVec.ofInt k.bits a ^^^ BitVec.ofInt k.bits b).toNat:=Classical.choose_spec (EN k a b)
section
variable {k k':IntKind} {a b:Int}
theorem aiR:iB .add (.int k a) (.int k b)=some (.int k (k.wrap (a+b))):=by simp[iB]
theorem aiS:iB .sub (.int k a) (.int k b)=some (.int k (k.wrap (a-b))):=by simp[iB]
theorem aiT:iB .mul (.int k a) (.int k b)=some (.int k (k.wrap (a*b))):=by simp[iB]
theorem aiU:iB .quo (.int k a) (.int k b)=if b=0 then none else some (.int k (k.wrap (a.tdiv b))):=by simp[iB]
theorem aiV:iB .rem (.int k a) (.int k b)=if b=0 then none else some (.int k (a.tmod b)):=by simp[iB]
theorem alu:iB .or (.int k a) (.int k b)=some (.int k (BU k a b)):=by simp[iB,yP]
theorem aiW:iB .and (.int k a) (.int k b)=some (.int k (nY k a b)):=by simp[iB,Bo]
theorem aiX:iB .xor (.int k a) (.int k b)=some (.int k (afK k a b)):=by simp[iB,acg]
theorem aiY:iB .shl (.int k a) (.int k' b)=if b<0 then none else some (.int k (Mh k a b)):=by simp[iB,Be]
theorem aiZ:iB .shr (.int k a) (.int k' b)=if b<0 then none else some (.int k (a.fdiv (2 ^ (min b.toNat k.bits)))):=by simp[iB]
theorem ai0:iB .eql (.int k a) (.int k b)=some (.bool (a==b)):=by simp[iB]
theorem ai1:iB .neq (.int k a) (.int k b)=some (.bool (a != b)):=by simp[iB]
theorem ai2:iB .lss (.int k a) (.int k b)=some (.bool (decide (a<b))):=by simp[iB]
theorem ai3:iB .leq (.int k a) (.int k b)=some (.bool (decide (a<=b))):=by simp[iB]
theorem ai4:iB .gtr (.int k a) (.int k b)=some (.bool (decide (b<a))):=by simp[iB]
theorem ai5:iB .geq (.int k a) (.int k b)=some (.bool (decide (b<=a))):=by simp[iB]
end
end
section
section eqs
variable {E:Env} {n:Nat} {st:St}
theorem uk {a b : aF} : exec E (n + 1) (.seq a b) st = match exec E n a st with
      | some (.norm, st') => exec E n b st'
      | r => r := rfl
theorem zU {x : Arg} {a b : aF} : exec E (n + 1) (.cond x a b) st = match dw E st [] x with
      | some (.d (.v (.bool t))) => exec E n (if t then a else b) st
      | _ => none := rfl
theorem lh {id : Nat} {b : aF} : exec E (n + 1) (.block id b) st = match exec E n b st with
      | some (.exit id', st') => if id' = id then some (.norm, st') else some (.exit id', st')
      | r => r := rfl
theorem ql {b : aF} : exec E (n + 1) (.loop b) st = match exec E n b st with
      | some (.norm, st') => exec E n (.loop b) st'
      | r => r := rfl
theorem um {ops:List jE}{outs apart:List (Nat × Nat)}:exec E (n+1) (.region ops outs apart) st =
  if lD st apart then(match eu E (cz E n) ops st [] with
   | some (st',env)=>some (.norm,{st' with vars:=jC st'.vars env outs})
   | none=>none) else none:=rfl
theorem Hy {g:Nat}{F:bO}{args:List FV}{B:List ah}(hp:E.jq g=none)(hf:E.fn g=some F)(hl:args.length=F.np) :
  cz E n g args B=match exec E n F.body {vars:=args++List.replicate (F.nv-F.np) .u,base:=B,loc:=[],aX:=false} with
    | some (.exit _,_)=>none
    | some (_,st')=>finish F st'
    | none=>none:=by
 unfold cz enter;rw[hp,hf];simp only[hl,if_true];rfl
theorem OM {g:Nat}{p:List FV->List ah->bJ}{args:List FV}{B:List ah}(hp:E.jq g=none)(hf:E.fn g=none)(hB:E.iO g=some p) :
  cz E n g args B=match p args B with
    | some (v,some B')=>if B.length<=B'.length then some (v,some B') else none
    | r=>r:=by
 unfold cz enter;simp only[hp,hf,hB];rfl
end eqs
def Le (r r':Nat->List FV->List ah->bJ):Prop:=∀ g args B x,r g args B=some x->r' g args B=some x
section mono
variable {E:Env} {r r':Nat->List FV->List ah->bJ}
theorem vK (h:Le r r'){draw:Bool}{st:St}{g:Nat}{xs:List FV}{rows:List Ref}{z:FV × St}(hz:eT r draw st g xs rows=some z):eT r' draw st g xs rows=some z:=by
 unfold eT at hz ⊢;cases hr:r g xs [] with
 | none=>rw[hr]at hz;cases hz
 | some x=>rw[h _ _ _ _ hr];rw[hr]at hz;exact hz
theorem vL (h:Le r r'){draw:Bool}{st:St}{g:Nat}{xs:List FV}{rows:List Ref}{z:FV × St}(hz:dE r draw st g xs rows=some z):dE r' draw st g xs rows=some z:=by
 unfold dE at hz ⊢;cases hr:r g (FV.aP st.base.length xs) (((aK st rows).base++(aK st rows).loc).map (ah.az st.base.length)) with
 | none=>rw[hr]at hz;cases hz
 | some x=>rw[h _ _ _ _ hr];rw[hr]at hz;exact hz
theorem uo (h:Le r r'){draw:Bool}{st:St}{g:Nat}{args:List FV}{z:FV × St}(hz:gz r draw st g args=some z):gz r' draw st g args=some z:=by
 unfold gz at hz ⊢;split at hz
 ·cases hz
 ·split at hz
  ·rename_i hc;rw[if_pos hc];exact vK h hz
  ·rename_i hc;rw[if_neg hc];exact vL h hz
theorem vM (h:Le r r'){st:St}{g:Nat}{args:List FV}{z:FV × St}(hz:eB E r st g args=some z):eB E r' st g args=some z:=by
 unfold eB at hz ⊢;split at hz
 ·cases hz
 ·rename_i xs hl;split at hz
  ·rename_i hr;rw[if_pos hr];split at hz
   ·rename_i hc;rw[if_pos hc];exact vK h hz
   ·rename_i hc;rw[if_neg hc];cases hq:r g (FV.aP st.base.length xs) ((st.base++st.loc).map (ah.az st.base.length)) with
    | none=>rw[hq]at hz;cases hz
    | some x=>rw[h _ _ _ _ hq];rw[hq]at hz;exact hz
  ·cases hz
theorem Tn (h:Le r r'){draw:Bool}{st:St}{env:List FV}{k:K}{z:FV × St}(hz:runK E r draw st env k=some z):runK E r' draw st env k=some z:=by
 cases k with
 | call g args =>
  simp only[runK]at hz ⊢;split at hz
  ·exact uo h hz
  ·cases hz
 | mE f args =>
  simp only[runK]at hz ⊢;split at hz
  ·exact uo h hz
  ·exact uo h hz
  ·cases hz
 | rJ g args =>
  simp only[runK]at hz ⊢;split at hz
  ·exact vL h hz
  ·cases hz
 | mF f args ps =>
  simp only[runK]at hz ⊢;split at hz
  ·rename_i hp;rw[if_pos hp];split at hz
   ·exact vM h hz
   ·exact vM h hz
   ·cases hz
  ·cases hz
 | _=>exact hz
theorem ma (h:Le r r'):∀ {ops:List jE} {st:St} {env:List FV} {z:St × List FV},eu E r ops st env=some z->eu E r' ops st env=some z
 | [],st,env,z,hz=>hz
 | o::rest,st,env,z,hz=>by
  unfold eu at hz ⊢;split at hz
  ·cases hz
  ·exact ma h hz
  ·rename_i hg;split at hz
   ·cases hz
   ·rename_i v st' hk;rw[Tn h hk];exact ma h hz
theorem EP:∀ (n:Nat) (c:aF) (st:St) (z:Out × St),exec E n c st=some z->exec E (n+1) c st=some z
 | 0,_,_,_,h=>by cases h
 | n+1,c,st,z,h=>by
  have ih:=EP n;have hc:Le (cz E n) (cz E (n+1)):=by
   intro g args B x hx;unfold cz enter at hx ⊢;split at hx
   ·exact hx
   ·split at hx
    ·exact hx
    ·rename_i F hF;split at hx
     ·rename_i hl;rw[if_pos hl];generalize hi:({vars:=args++List.replicate (F.nv-F.np) FV.u,base:=B,loc:=[],aX:=false}:St)=s0 at hx ⊢;cases he:exec E n F.body s0 with
      | none=>rw[he]at hx;cases hx
      | some z=>rw[ih _ _ _ he];rw[he]at hx;exact hx
     ·cases hx
  cases c with
  | skip=>exact h
  | ret=>exact h
  | exit id=>exact h
  | kill js=>exact h
  | region ops outs apart =>
   rw[um]at h ⊢;split at h
   ·rename_i ha;rw[if_pos ha];split at h
    ·rename_i st' env hr;rw[ma hc hr];exact h
    ·cases h
   ·cases h
  | seq a b =>
   rw[uk]at h ⊢;cases he:exec E n a st with
   | none=>rw[he]at h;cases h
   | some x =>
    obtain⟨o,st'⟩:=x;rw[ih _ _ _ he];rw[he]at h;cases o with
    | norm=>exact ih _ _ _ h
    | exit id=>exact h
    | ret=>exact h
  | cond x a b =>
   rw[zU]at h ⊢;split at h
   ·exact ih _ _ _ h
   ·cases h
  | block id b =>
   rw[lh]at h ⊢;cases he:exec E n b st with
   | none=>rw[he]at h;cases h
   | some x=>rw[ih _ _ _ he];rw[he]at h;exact h
  | loop b =>
   rw[ql]at h ⊢;cases he:exec E n b st with
   | none=>rw[he]at h;cases h
   | some x =>
    obtain⟨o,st'⟩:=x;rw[ih _ _ _ he];rw[he]at h;cases o with
    | norm=>exact ih _ _ _ h
    | exit id=>exact h
    | ret=>exact h
theorem GQ {n m:Nat}{c:aF}{st:St}{z:Out × St}(h:exec E n c st=some z)(hm:n<=m):exec E m c st=some z:=by
 induction hm with
 | refl=>exact h
 | step _ ih=>exact EP _ _ _ _ ih
theorem yX {n m g:Nat}{args:List FV}{B:List ah}{x:FV × Option (List ah)}(hx:cz E n g args B=some x)(hm:n<=m):cz E m g args B=some x:=by
 unfold cz enter at hx ⊢;split at hx
 ·exact hx
 ·split at hx
  ·exact hx
  ·rename_i F hF;split at hx
   ·rename_i hl;rw[if_pos hl];generalize hi:({vars:=args++List.replicate (F.nv-F.np) FV.u,base:=B,loc:=[],aX:=false}:St)=s0 at hx ⊢;cases he:exec E n F.body s0 with
    | none=>rw[he]at hx;cases hx
    | some z=>rw[GQ he hm];rw[he]at hx;exact hx
   ·cases hx
end mono
def Ca (E:Env)(g:Nat)(args:List FV)(r:FV × Option (List ah)):Prop:=∃ n0,∀ n,n0<=n->cz E n g args []=some r
theorem Ca.of {E:Env}{n g:Nat}{args:List FV}{r:FV × Option (List ah)}(h:cz E n g args []=some r):Ca E g args r:=⟨n,fun _ hm=>yX h hm⟩
end
end Fi
/-
 Which variables a function has,and which of them end behind a region: by bits,so that the kernel can reckon it.
-/
namespace Fi
open Go
def bs (t:Nat):Nat:=Nat.shiftLeft 1 t
def mns (a b:Nat):Nat:=Nat.sub a (Nat.land a b)
def oB (o:Oper):Nat:=o.op.operands.toList.foldl (fun s x=>match x with|.tmp t=>Nat.lor s (bs t)|_=>s) 0
def rgU:List Oper->Nat->Nat->Nat × Nat
 | [],u,d=>(u,d)
 | o::r,u,d=>rgU r (Nat.lor u (mns (oB o) d)) (match o.dst with | some t=>Nat.lor d (bs t) | none=>d)
inductive LC
 | z | rg (i u d:Nat) | sq (a b:LC) | cd (m:Nat) (a b:LC) | bk (i:Nat) (b:LC) | lp (b:LC) | ex (i:Nat) | rt
def OO:Code->LC
 | .region i ops _=>match rgU ops.toList 0 0 with | (u,d)=>.rg i u d
 | .seq a b=>.sq (OO a) (OO b)
 | .cond x a b=>.cd (match x with | .tmp t=>bs t | _=>0) (OO a) (OO b)
 | .block i b=>.bk i (OO b)
 | .loop b=>.lp (OO b)
 | .exit i=>.ex i
 | .ret=>.rt
 | _=>.z
def LC.use:LC->Nat
 | .rg _ u _=>u
 | .sq a b=>Nat.lor a.use b.use
 | .cd m a b=>Nat.lor m (Nat.lor a.use b.use)
 | .bk _ b | .lp b=>b.use
 | _=>0
abbrev As:=List (Nat × Nat)
def ag:As->Nat->Nat
 | [],_=>0
 | (k,v)::r,i=>bif Nat.beq k i then v else ag r i
def ap (i v:Nat):As->As
 | []=>[(i,v)]
 | (k,w)::r=>bif Nat.beq k i then(k,Nat.lor v w)::r else(k,w)::ap i v r
def lv:LC->Nat->As->Nat->As->Nat × As
 | .z,o,_,_,A=>(o,A)
 | .rg i u d,o,_,_,A=>(Nat.lor u (mns o d),ap i o A)
 | .sq a b,o,X,R,A=>match lv b o X R A with | (m,A)=>lv a m X R A
 | .cd m a b,o,X,R,A=>match lv a o X R A with | (p,A)=>match lv b o X R A with | (q,A)=>(Nat.lor m (Nat.lor p q),A)
 | .bk i b,o,X,R,A=>lv b o ((i,o)::X) R A
 | .lp b,_,X,R,A=>match lv b 0 X R A with | (p,A)=>lv b p X R A
 | .ex i,_,X,_,A=>(ag X i,A)
 | .rt,_,_,R,A=>(R,A)
/-- what may be alive behind a piece (none: it does not end),what ends behind each region,what is alive where a block is left -/
def oL:Option Nat->Option Nat->Option Nat
 | some p,some q=>some (Nat.lor p q)
 | none,y=>y
 | x,none=>x
def eg:List (Nat × Option Nat)->Nat->Option Nat
 | [],_=>none
 | (k,v)::r,i=>bif Nat.beq k i then v else eg r i
abbrev FS:=As × List (Nat × Option Nat)
def fw (V:Nat)(L:As):LC->Nat->FS->Option Nat × FS
 | .z,i,s=>(some i,s)
 | .rg j _ d,i,s=>match Nat.lor i (Nat.land d V) with | al=>match mns al (ag L j) with | k=>(some (mns al k),ap j k s.1,s.2)
 | .sq a b,i,s=>match fw V L a i s with | (some m,s)=>fw V L b m s | r=>r
 | .cd _ a b,i,s=>match fw V L a i s with | (x,s)=>match fw V L b i s with | (y,s)=>(oL x y,s)
 | .bk j b,i,s=>match fw V L b i (s.1,(j,none)::s.2) with | (x,s)=>(oL x (eg s.2 j),s)
 | .lp b,i,s=>match fw V L b i s with
  | (some p,s)=>(none,(fw V L b (Nat.lor i p) s).2)
  | (none,s)=>(none,s)
 | .ex j,i,s=>(none,s.1,(j,oL (eg s.2 j) (some i))::s.2)
 | .rt,_,s=>(none,s)
def bits (n m:Nat):List Nat:=(List.range n).filter (Nat.testBit m ·)
def pos (vs:List Nat)(m:Nat):List Nat:=vs.zipIdx.filterMap fun x=>bif Nat.testBit m x.1 then some x.2 else none
/-- The variables and what ends. -/
def lvs (F:Func):Option (List Tmp × List (Nat × List Nat)) :=
 match F.body with
 | none=>none
 | some c =>
  let C:=OO c
  let np:=F.params.size+F.nfree
  let R:=F.results.toList.foldl (fun s x=>match x with|.tmp t=>Nat.lor s (bs t)|.cell t _=>Nat.lor s (bs t)) 0
  let P:=Nat.sub (bs np) 1
  let V:=Nat.lor P (Nat.lor C.use R)
  let vs:=bits F.ntmps V
  some (vs,(fw V (lv C R [] R []).2 C P ([],[])).2.1.map fun x=>(x.1,pos vs x.2))
end Fi
