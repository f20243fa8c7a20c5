import Derived.Test.YtkekcmgkpdkieaaGreatDoorFiB
set_option linter.unusedVariables false
set_option linter.unusedSimpArgs false
namespace Fi
open Go
section
variable {mn:Prop}
section step
variable {P:Program} {E:Env} {cx:Cx} {σ:Nat->Option FuncId} {β:Map} {I Wr:Nat->Prop} {wd:Nat->Prop} {w:World} {st st':St} {env:List FV} {ρ:Operand->Value} {aL:List (Option Tmp)}
variable {rec:Nat->List FV->List ae->bG} {draw:Bool} {v:FV}
def bU (P:Program)(E:Env)(cx:Cx)(σ:Nat->Option FuncId)(β:Map)(I:Nat->Prop)(w:World)(st:St)(env:List FV)(aL:List (Option Tmp))(ρ:Operand->Value)(xs:List Operand):Prop :=
 ∀ ty x y f,x ∈ xs->iR P cx aL ty x=some y->dA E st env y=some f->aI σ β I w st.base.length f (ρ x)
theorem jB {xs:List Operand}(hA:bU P E cx σ β I w st env aL ρ xs):∀ {uH:List TypeId} {l:List Operand} {as:List Arg} {fs:List FV},(∀ x ∈ l,x ∈ xs)->gP P cx aL uH l=some as->fG E st env as=some fs ->
  gy σ β I w st.base.length fs (l.map ρ)
 | uH,[],as,fs,_,hc,hf=>by
  simp[gP]at hc;subst hc;simp[fG]at hf;subst hf;exact⟨rfl,fun i c x h=>by simp at h⟩
 | uH,x::l,as,fs,hm,hc,hf=>by
  simp only[gP]at hc;split at hc<;>simp at hc;subst hc;rename_i y s h1 h2;simp only[fG]at hf;split at hf<;>simp at hf;subst hf;rename_i f fs' h3 h4;obtain⟨g1,g2⟩:=jB hA (fun x hx=>hm x (by simp[hx])) h2 h4;refine⟨by simp[g1],fun i c z hc hz => ?_⟩;cases i with
  | zero=>simp at hc hz;subst hc;subst hz;exact hA _ x y f (hm x (by simp)) h1 h3
  | succ i=>exact g2 i c z (by simpa using hc) (by simpa using hz)
theorem WR {n:Nat}{f:FV}{i:Int}{x:Value}(h:Ii f=some i)(hr:aI σ β I w n f x):∃ k,x=.int k i:=by
 unfold Ii at h;split at h
 ·rename_i k m;simp at h;subst h;exact⟨k,hr.val⟩
 ·simp at h
theorem iN {xs:List Operand}(hA:bU P E cx σ β I w st env aL ρ xs){x:Option Operand}{y:Option Arg}{dflt i:Int}(hm:∀ o,x=some o->o ∈ xs)(hc:vO P cx aL x=some y)(hv:kT y dflt (dA E st env)=some i):kI ρ x dflt i:=by
 cases x with
 | none =>
  simp[vO]at hc;subst hc;simp[kT]at hv;exact hv.symm
 | some o =>
  simp only[vO]at hc;split at hc<;>simp at hc;subst hc;rename_i y' h1;simp only[kT]at hv;split at hv
  ·rename_i f h2;exact WR hv (hA _ o y' f (hm o rfl) h1 h2)
  ·simp at hv
theorem Yields.cast {o:Oper}{n:Nat}{v1 v2:FV}{s1 s2:St}(h:Yields P o ρ w (Post mn σ n (st.base++st.loc).length β I Wr wd w s1 v1))(e1:v1=v2)(e2:s1=s2):Yields P o ρ w (Post mn σ n (st.base++st.loc).length β I Wr wd w s2 v2):=by subst e1;subst e2;exact h
variable {type:TypeId} {dst:Option Tmp} {pos:String} {after:Array Edge} {guard:Option (Nat × Bool)} {k:K}
theorem aa7 {op:Op}{x:Operand}(hop:op=.move x\/op=.assign x)(hc:aX P cx aL ⟨dst,op,type,pos,after,guard⟩=some k)(hk:runK E rec draw st env k=some (v,st'))(hS:aH σ st.base.length β I Wr wd (st.base++st.loc) w)
  (hA:bU P E cx σ β I w st env aL ρ op.operands.toList):Yields P ⟨dst,op,type,pos,after,guard⟩ ρ w (Post mn σ st.base.length (st.base++st.loc).length β I Wr wd w st' v):=by
 have hc':(match iR P cx aL type x with|some a=>some (K.Av a)|none=>none)=some k:=by rcases hop with rfl|rfl<;>exact hc
 have hm:x ∈ op.operands.toList:=by rcases hop with rfl|rfl<;>simp[Op.operands]
 split at hc'<;>simp at hc';subst hc';rename_i a ha;simp only[runK]at hk;split at hk<;>simp at hk;obtain⟨rfl,rfl⟩:=hk;rename_i f hf;exact agl hop hS (hA _ x a _ hm ha hf)
theorem adB {c a b:Operand}(hc:aX P cx aL ⟨dst,.pick c a b,type,pos,after,guard⟩=some k)(hk:runK E rec draw st env k=some (v,st'))(hS:aH σ st.base.length β I Wr wd (st.base++st.loc) w)
  (hA:bU P E cx σ β I w st env aL ρ [c,a,b]):Yields P ⟨dst,.pick c a b,type,pos,after,guard⟩ ρ w (Post mn σ st.base.length (st.base++st.loc).length β I Wr wd w st' v):=by
 simp only[aX]at hc;split at hc<;>simp at hc;subst hc;rename_i c' a' b' h1 h2 h3;simp only[runK]at hk;split at hk
 ·rename_i t ht;split at hk<;>simp at hk;obtain⟨rfl,rfl⟩:=hk;rename_i f hf;refine ads (t:=t) hS (hA _ c c' _ (by simp) h1 ht) ?_;cases t
  ·exact hA _ b b' _ (by simp) h3 (by simpa using hf)
  ·exact hA _ a a' _ (by simp) h2 (by simpa using hf)
 ·simp at hk
theorem agx {op:BinOp}{xt yt:TypeId}{x y:Operand}(uI:∀ v,ρ (.const v)=v)(hc:aX P cx aL ⟨dst,.binOp op xt x y yt,type,pos,after,guard⟩=some k)(hk:runK E rec draw st env k=some (v,st'))(hS:aH σ st.base.length β I Wr wd (st.base++st.loc) w)
  (hA:bU P E cx σ β I w st env aL ρ [x,y]):Yields P ⟨dst,.binOp op xt x y yt,type,pos,after,guard⟩ ρ w (Post mn σ st.base.length (st.base++st.loc).length β I Wr wd w st' v):=by
 simp only[aX,Pb]at hc;split at hc
 ·rename_i a b ha hb;have main:∀ op',op'=op->runK E rec draw st env (.bin op' a b)=some (v,st')->Yields P ⟨dst,.binOp op xt x y yt,type,pos,after,guard⟩ ρ w (Post mn σ st.base.length (st.base++st.loc).length β I Wr wd w st' v):=by
   intro op' hop hk;subst hop;simp only[runK]at hk;split at hk
   ·rename_i p q hp hq;split at hk<;>simp at hk;obtain⟨rfl,rfl⟩:=hk;rename_i r hr;exact agm hr hS (hA _ x a _ (by simp) ha hp) (hA _ y b _ (by simp) hb hq)
   ·simp at hk
  split at hc
  ·simp at hc;subst hc;exact main _ rfl hk
  ·simp at hc;subst hc;exact main _ rfl hk
  ·rename_i ht;have mb:∀ neg,op=(if neg then .neq else .eql)->k=.beq neg a b->Yields P ⟨dst,.binOp op xt x y yt,type,pos,after,guard⟩ ρ w (Post mn σ st.base.length (st.base++st.loc).length β I Wr wd w st' v):=by
    intro neg hop hke;subst hke;simp only[runK]at hk;split at hk<;>simp at hk;obtain⟨rfl,rfl⟩:=hk;rename_i p q hp hq;have:=agn (mn:=mn) (dst:=dst) (type:=type) (pos:=pos) (after:=after) (guard:=guard) (yt:=yt) hop ht hS (hA _ x a _ (by simp) ha hp) (hA _ y b _ (by simp) hb hq);exact this
   split at hc<;>simp at hc
   ·exact mb false rfl hc.symm
   ·exact mb true rfl hc.symm
  ·rename_i len e ht;have mb:∀ neg k0,op=(if neg then .neq else .eql)->P.underlying e=some (.int k0)->aY P e=some 1->P.eqGuardType P.depth xt=false->k=.aeq neg len a b->Yields P ⟨dst,.binOp op xt x y yt,type,pos,after,guard⟩ ρ w (Post mn σ st.base.length (st.base++st.loc).length β I Wr wd w st' v):=by
    intro neg k0 hop hu hs hq hke;subst hke;simp only[runK]at hk;split at hk
    ·rename_i p q hp hq';split at hk
     ·rename_i hl;split at hk<;>simp at hk;obtain⟨rfl,rfl⟩:=hk;rename_i t hv;have:=agv (mn:=mn) (dst:=dst) (type:=type) (pos:=pos) (after:=after) (guard:=guard) (yt:=yt) hop ht hu hs hq hl hv hS (hA _ x a _ (by simp) ha hp) (hA _ y b _ (by simp) hb hq');exact this.cast (by cases neg<;>rfl) rfl
     ·cases hk
    ·cases hk
   split at hc
   ·rename_i k0 hu hs;split at hc
    ·cases hc
    ·rename_i hq;cases hc;exact mb false k0 rfl hu hs (by simpa using hq) rfl
   ·rename_i k0 hu hs;split at hc
    ·cases hc
    ·rename_i hq;cases hc;exact mb true k0 rfl hu hs (by simpa using hq) rfl
   ·cases hc
  ·rename_i e ht;have mb:∀ neg,op=(if neg then .neq else .eql)->y=.const (.slice none 0 0)->k=.xJ 0 neg a->Yields P ⟨dst,.binOp op xt x y yt,type,pos,after,guard⟩ ρ w (Post mn σ st.base.length (st.base++st.loc).length β I Wr wd w st' v):=by
    intro neg hop hy hke;subst hke;subst hy;simp only[runK]at hk;split at hk<;>simp at hk
    ·rename_i sz _ hp;obtain⟨rfl,rfl⟩:=hk;have hx:=nD (hA _ x a _ (by simp) ha hp);have:=sU (mn:=mn) (dst:=dst) (type:=type) (pos:=pos) (after:=after) (guard:=guard) (yt:=yt) hop uI ht hx hS;exact this.cast (by cases neg<;>rfl) rfl
    ·rename_i sz e0 es _ hp;obtain⟨rfl,rfl⟩:=hk;have hr:=hA _ x a _ (by simp) ha hp;obtain⟨ad,l,c,hx⟩:∃ ad l c,ρ x=.slice (some ad) l c:=by
      generalize ρ x=z at hr;cases hr with
      | d hr=>cases hr with
       | s u h1 h2 h3 h4 h5 h6=>exact⟨_,_,_,rfl⟩
     have:=sU (mn:=mn) (dst:=dst) (type:=type) (pos:=pos) (after:=after) (guard:=guard) (yt:=yt) hop uI ht hx hS;exact this.cast (by cases neg<;>rfl) rfl
    ·rename_i sz _ hp;obtain⟨rfl,rfl⟩:=hk;have hr:=hA _ x a _ (by simp) ha hp;obtain⟨ad,l,c,hx⟩:∃ ad l c,ρ x=.slice (some ad) l c:=by
      generalize ρ x=z at hr;cases hr with
      | z=>exact⟨_,_,_,rfl⟩
     have:=sU (mn:=mn) (dst:=dst) (type:=type) (pos:=pos) (after:=after) (guard:=guard) (yt:=yt) hop uI ht hx hS;exact this.cast (by cases neg<;>rfl) rfl
    ·rename_i h1 h2;simp at h1
    ·rename_i h1 h2;simp at h1
   split at hc<;>simp at hc
   ·exact mb false rfl rfl hc.symm
   ·exact mb true rfl rfl hc.symm
  ·rename_i ms ht;have mb:∀ neg,op=(if neg then .neq else .eql)->y=.const .nilIface->k=.xJ 1 neg a->Yields P ⟨dst,.binOp op xt x y yt,type,pos,after,guard⟩ ρ w (Post mn σ st.base.length (st.base++st.loc).length β I Wr wd w st' v):=by
    intro neg hop hy hke;subst hke;subst hy;simp only[runK]at hk;split at hk<;>simp at hk
    ·rename_i h1 h2;simp at h1
    ·rename_i h1 h2;simp at h1
    ·rename_i h1 h2;simp at h1
    ·rename_i _ hp;obtain⟨rfl,rfl⟩:=hk;have hx:=(hA _ x a _ (by simp) ha hp).val;have:=z_ (mn:=mn) (dst:=dst) (type:=type) (pos:=pos) (after:=after) (guard:=guard) (yt:=yt) (r:=true) hop uI ht hx (.inl ⟨rfl,rfl⟩) hS;exact this.cast (by cases neg<;>rfl) rfl
    ·rename_i _ hp;obtain⟨rfl,rfl⟩:=hk;have hr:=hA _ x a _ (by simp) ha hp;obtain⟨k1,y1,hx⟩:∃ k1 y1,ρ x=.iface k1 y1:=by
      generalize ρ x=z at hr;cases hr with
      | d hr=>cases hr with
       | i t y=>exact⟨_,_,rfl⟩
     have:=z_ (mn:=mn) (dst:=dst) (type:=type) (pos:=pos) (after:=after) (guard:=guard) (yt:=yt) (r:=false) hop uI ht hx (.inr ⟨_,_,rfl,rfl⟩) hS;exact this.cast (by cases neg<;>rfl) rfl
   split at hc<;>simp at hc
   ·exact mb false rfl rfl hc.symm
   ·exact mb true rfl rfl hc.symm
  ·simp at hc
 ·simp at hc
theorem ajc {op:UnOp}{xt:TypeId}{x:Operand}(hc:aX P cx aL ⟨dst,.unOp op xt x,type,pos,after,guard⟩=some k)(hk:runK E rec draw st env k=some (v,st'))(hS:aH σ st.base.length β I Wr wd (st.base++st.loc) w)
  (hA:bU P E cx σ β I w st env aL ρ [x]):Yields P ⟨dst,.unOp op xt x,type,pos,after,guard⟩ ρ w (Post mn σ st.base.length (st.base++st.loc).length β I Wr wd w st' v):=by
 simp only[aX]at hc;split at hc<;>simp at hc;subst hc;rename_i a ha;simp only[runK]at hk;split at hk
 ·rename_i p hp;split at hk<;>simp at hk;obtain⟨rfl,rfl⟩:=hk;rename_i r hr;exact ai8 hr hS (hA _ x a _ (by simp) ha hp)
 ·simp at hk
theorem adC {src dt:TypeId}{x:Operand}(hc:aX P cx aL ⟨dst,.convert src dt x,type,pos,after,guard⟩=some k)(hk:runK E rec draw st env k=some (v,st'))(hS:aH σ st.base.length β I Wr wd (st.base++st.loc) w)
  (hA:bU P E cx σ β I w st env aL ρ [x]):Yields P ⟨dst,.convert src dt x,type,pos,after,guard⟩ ρ w (Post mn σ st.base.length (st.base++st.loc).length β I Wr wd w st' v):=by
 simp only[aX]at hc;split at hc
 ·rename_i k1 k2 h1 h2;split at hc<;>simp at hc;subst hc;rename_i a ha;simp only[runK]at hk;split at hk<;>simp at hk;obtain⟨rfl,rfl⟩:=hk;rename_i hp;exact adt h1 h2 hS (hA _ x a _ (by simp) ha hp)
 ·simp at hc
theorem agy {e:TypeId}{x:Operand}(hc:aX P cx aL ⟨dst,.box e x,type,pos,after,guard⟩=some k)(hk:runK E rec draw st env k=some (v,st'))(hS:aH σ st.base.length β I Wr wd (st.base++st.loc) w)
  (hA:bU P E cx σ β I w st env aL ρ [x]):Yields P ⟨dst,.box e x,type,pos,after,guard⟩ ρ w (Post mn σ st.base.length (st.base++st.loc).length β I Wr wd w st' v):=by
 simp only[aX]at hc;split at hc<;>simp at hc;subst hc;rename_i a ha;simp only[runK]at hk;split at hk
 ·rename_i f hf;split at hk<;>simp at hk;obtain⟨rfl,rfl⟩:=hk;rename_i ho;exact agp ho hS (hA _ x a _ (by simp) ha hf)
 ·simp at hk
theorem agz {e:TypeId}(bC:∀ f g,cx.gid f=some g->σ g=some f)(hc:aX P cx aL ⟨dst,.alloc e,type,pos,after,guard⟩=some k)(hk:runK E rec draw st env k=some (v,st'))(hS:aH σ st.base.length β I Wr wd (st.base++st.loc) w) :
  Yields P ⟨dst,.alloc e,type,pos,after,guard⟩ ρ w (Post mn σ st.base.length (st.base++st.loc).length β I Wr wd w st' v):=by
 simp only[aX]at hc;split at hc<;>simp at hc;subst hc;rename_i z hz;simp only[runK]at hk;simp at hk;obtain⟨rfl,rfl⟩:=hk;exact agq bC hz hS
theorem adD {t:TypeId}{x:Operand}(hc:aX P cx aL ⟨dst,.load t x,type,pos,after,guard⟩=some k)(hk:runK E rec draw st env k=some (v,st'))(hS:aH σ st.base.length β I Wr wd (st.base++st.loc) w)
  (hA:bU P E cx σ β I w st env aL ρ [x]):Yields P ⟨dst,.load t x,type,pos,after,guard⟩ ρ w (Post mn σ st.base.length (st.base++st.loc).length β I Wr wd w st' v):=by
 simp only[aX]at hc;split at hc<;>simp at hc;subst hc;rename_i a g m ha hg hm;simp only[runK]at hk;split at hk
 ·rename_i q off hp;split at hk
  ·rename_i cs hq;split at hk<;>simp at hk;obtain⟨hpu,rfl,rfl⟩:=hk;rename_i hv;exact WH hg hm hq hv hS (hA _ x a _ (by simp) ha hp)
  ·simp at hk
 ·rename_i q az sz i off hp;have main:∀ es,(st.heap q=some (.row az sz es)\/st.heap q=some (.gT az sz es))->(match es[i]? with|some x=>(match g_ x.cells g off m with|some v=>some (FV.d v,st)|none=>none)|none=>none)=some (v,st') ->
    Yields P ⟨dst,.load t x,type,pos,after,guard⟩ ρ w (Post mn σ st.base.length (st.base++st.loc).length β I Wr wd w st' v):=by
   intro es hq hk;split at hk
   ·rename_i e he;split at hk<;>simp at hk;obtain⟨rfl,rfl⟩:=hk;rename_i d hd;exact WI hg hm hq he hd hS (hA _ x a _ (by simp) ha hp)
   ·simp at hk
  split at hk
  ·rename_i jC eG es hq;split at hk
   ·rename_i hh;obtain⟨rfl,rfl⟩:=hh;exact main es (.inl hq) hk
   ·simp at hk
  ·rename_i jC eG es hq;split at hk
   ·rename_i hh;obtain⟨rfl,rfl⟩:=hh;exact main es (.inr hq) hk
   ·simp at hk
  ·simp at hk
 ·rename_i y hp;split at hk<;>simp at hk;obtain⟨rfl,rfl⟩:=hk;rename_i d hd;exact Rb hg hm hd hS (hA _ x a _ (by simp) ha hp)
 ·simp at hk
theorem aab {t:TypeId}{x y:Operand}(hc:aX P cx aL ⟨dst,.store t x y,type,pos,after,guard⟩=some k)(hk:runK E rec draw st env k=some (v,st'))(hdt:k.loud draw=true->jf st.base.length st' wd)(hS:aH σ st.base.length β I Wr wd (st.base++st.loc) w)
  (hA:bU P E cx σ β I w st env aL ρ [x,y]):Yields P ⟨dst,.store t x y,type,pos,after,guard⟩ ρ w (Post mn σ st.base.length (st.base++st.loc).length β I Wr wd w st' v):=by
 simp only[aX]at hc;split at hc<;>simp at hc;subst hc;rename_i a b m ha hb hm;simp only[runK]at hk;split at hk
 ·rename_i q off f hp hf;split at hk
  ·rename_i cs hq;split at hk<;>simp at hk;obtain⟨rfl,rfl⟩:=hk;rename_i hh;exact Rk hm hq hh.1 hh.2.1 hh.2.2 (hdt rfl) hS (hA _ x a _ (by simp) ha hp) (hA _ y b _ (by simp) hb hf)
  ·simp at hk
 ·rename_i q az sz i off f hp hf;split at hk
  ·rename_i jC eG es hq;split at hk
   ·rename_i hh;obtain⟨rfl,rfl⟩:=hh;split at hk
    ·rename_i cs he;split at hk<;>simp at hk;obtain⟨rfl,rfl⟩:=hk;rename_i hh;exact FT hm hq he hh.1 hh.2.2 hh.2.1 rfl (hdt rfl) hS (hA _ x a _ (by simp) ha hp) (hA _ y b _ (by simp) hb hf)
    ·rename_i e0 hne he;split at hk<;>simp at hk;obtain⟨rfl,rfl⟩:=hk;rename_i hh;obtain⟨h1,rfl,h3⟩:=hh;have hcl:=D.Ky h3;have he0:e0.cells=[e0]:=by cases e0<;>first|rfl|exact absurd rfl (hne _)
     refine FT hm hq he (by rw[hcl,h1];rfl) (by rw[hcl];simp[h3]) (by rw[he0,h1];simp) (by rw[he0,hcl];rfl) (hdt rfl) hS (hA _ x a _ (by simp) ha hp) (hA _ y b _ (by simp) hb hf)
    ·simp at hk
   ·simp at hk
  ·simp at hk
 ·simp at hk
theorem aac {s:TypeId}{x:Operand}{i:Nat}(hc:aX P cx aL ⟨dst,.fieldAddr s x i,type,pos,after,guard⟩=some k)(hk:runK E rec draw st env k=some (v,st'))(hS:aH σ st.base.length β I Wr wd (st.base++st.loc) w)
  (hA:bU P E cx σ β I w st env aL ρ [x]):Yields P ⟨dst,.fieldAddr s x i,type,pos,after,guard⟩ ρ w (Post mn σ st.base.length (st.base++st.loc).length β I Wr wd w st' v):=by
 simp only[aX]at hc;split at hc
 ·rename_i fs hs;split at hc
  ·rename_i fl hfl;split at hc
   ·rename_i a g m ha hg hm;split at hc<;>simp at hc;subst hc;rename_i h0;simp only[runK]at hk;split at hk<;>(try simp at hk)
    ·rename_i q o hp;obtain⟨rfl,rfl⟩:=hk;exact Re hs hfl hm h0 hS (hA _ x a _ (by simp) ha hp)
    ·rename_i q az sz j o hp;obtain⟨rfl,rfl⟩:=hk;exact Rf hs hfl hm h0 hS (hA _ x a _ (by simp) ha hp)
    ·rename_i y hp;split at hk<;>simp at hk;obtain⟨rfl,rfl⟩:=hk;rename_i d hd;exact Ns hs hfl hm h0 hd hS (hA _ x a _ (by simp) ha hp)
   ·simp at hc
  ·simp at hc
 ·simp at hc
theorem aad {s:TypeId}{x:Operand}{i:Nat}(hc:aX P cx aL ⟨dst,.field s x i,type,pos,after,guard⟩=some k)(hk:runK E rec draw st env k=some (v,st'))(hS:aH σ st.base.length β I Wr wd (st.base++st.loc) w)
  (hA:bU P E cx σ β I w st env aL ρ [x]):Yields P ⟨dst,.field s x i,type,pos,after,guard⟩ ρ w (Post mn σ st.base.length (st.base++st.loc).length β I Wr wd w st' v):=by
 simp only[aX]at hc;split at hc
 ·rename_i fs hs;split at hc
  ·rename_i fl hfl;split at hc<;>simp at hc;subst hc;rename_i a g m ha hg hm;simp only[runK]at hk;split at hk<;>(try simp at hk)
   ·rename_i cs hp;split at hk<;>simp at hk;obtain⟨rfl,rfl⟩:=hk;rename_i hv;exact WC hs hfl hg hm hv hS (hA _ x a _ (by simp) ha hp)
   ·rename_i cs hp;split at hk<;>simp at hk;obtain⟨rfl,rfl⟩:=hk;rename_i hv;exact WE hs hfl hg hm hv hS (hA _ x a _ (by simp) ha hp)
  ·simp at hc
 ·simp at hc
end step
end
section
variable {mn:Prop}
section step
variable {P:Program} {E:Env} {cx:Cx} {σ:Nat->Option FuncId} {β:Map} {I Wr:Nat->Prop} {wd:Nat->Prop} {w:World} {st st':St} {env:List FV} {ρ:Operand->Value} {aL:List (Option Tmp)}
variable {rec:Nat->List FV->List ae->bG} {draw:Bool} {v:FV}
variable {type:TypeId} {dst:Option Tmp} {pos:String} {after:Array Edge} {guard:Option (Nat × Bool)} {k:K}
theorem aae {t:TypeId}{x ix:Operand}(hc:aX P cx aL ⟨dst,.indexAddr t x ix,type,pos,after,guard⟩=some k)(hk:runK E rec draw st env k=some (v,st'))(hS:aH σ st.base.length β I Wr wd (st.base++st.loc) w)
  (hA:bU P E cx σ β I w st env aL ρ [x,ix]):Yields P ⟨dst,.indexAddr t x ix,type,pos,after,guard⟩ ρ w (Post mn σ st.base.length (st.base++st.loc).length β I Wr wd w st' v):=by
 simp only[aX]at hc;split at hc
 ·rename_i e ht;split at hc<;>simp at hc;subst hc;rename_i a b m ha hb hm;simp only[runK]at hk;split at hk
  ·rename_i q az sz off l kk j hp hi;split at hk<;>simp at hk;obtain⟨rfl,rfl⟩:=hk;rename_i hh;obtain⟨rfl,h0,h1⟩:=hh;exact Nt ht hm h0 h1 hS (hA _ x a _ (by simp) ha hp) (hA _ ix b _ (by simp) hb hi)
  ·rename_i sz es kk j hp hi;split at hk
   ·rename_i hh;obtain⟨rfl,h0⟩:=hh;split at hk<;>simp at hk;obtain⟨rfl,rfl⟩:=hk;rename_i y hy;exact Rh ht hm h0 hy hS (hA _ x a _ (by simp) ha hp) (hA _ ix b _ (by simp) hb hi)
   ·simp at hk
  ·simp at hk
 ·rename_i len e ht;split at hc<;>simp at hc;subst hc;rename_i a b m g ha hb hm hg;simp only[runK]at hk;split at hk
  ·rename_i q o kk j hp hi;split at hk<;>simp at hk;obtain⟨rfl,rfl⟩:=hk;rename_i hh;exact Ri ht hm hh.1 hh.2 hS (hA _ x a _ (by simp) ha hp) (hA _ ix b _ (by simp) hb hi)
  ·rename_i q az s i o kk j hp hi;split at hk<;>simp at hk;obtain⟨rfl,rfl⟩:=hk;rename_i hh;exact Rj ht hm hh.1 hh.2 hS (hA _ x a _ (by simp) ha hp) (hA _ ix b _ (by simp) hb hi)
  ·rename_i y kk j hp hi;split at hk
   ·rename_i hh;split at hk<;>simp at hk;obtain⟨rfl,rfl⟩:=hk;rename_i d hd;exact Nu ht hm hh.1 hh.2 hd hS (hA _ x a _ (by simp) ha hp) (hA _ ix b _ (by simp) hb hi)
   ·simp at hk
  ·simp at hk
 ·simp at hc
theorem aaf {t:TypeId}{x ix:Operand}(hc:aX P cx aL ⟨dst,.index t x ix,type,pos,after,guard⟩=some k)(hk:runK E rec draw st env k=some (v,st'))(hS:aH σ st.base.length β I Wr wd (st.base++st.loc) w)
  (hA:bU P E cx σ β I w st env aL ρ [x,ix]):Yields P ⟨dst,.index t x ix,type,pos,after,guard⟩ ρ w (Post mn σ st.base.length (st.base++st.loc).length β I Wr wd w st' v):=by
 simp only[aX]at hc;split at hc
 ·rename_i len e ht;split at hc<;>simp at hc;subst hc;rename_i a b m g ha hb hm hg;simp only[runK]at hk;split at hk
  ·rename_i cs kk j hp hi;split at hk
   ·rename_i hh;split at hk<;>simp at hk;obtain⟨rfl,rfl⟩:=hk;rename_i d hd;exact Z7 ht hg hm hh.1 hh.2 hd hS (hA _ x a _ (by simp) ha hp) (hA _ ix b _ (by simp) hb hi)
   ·simp at hk
  ·simp at hk
 ·rename_i ht;split at hc<;>simp at hc;subst hc;rename_i a b ha hb;simp only[runK]at hk;split at hk
  ·rename_i s kk j hp hi;split at hk
   ·rename_i h0;split at hk<;>simp at hk;obtain⟨rfl,rfl⟩:=hk;rename_i c hc';exact WG ht h0 hc' hS (hA _ x a _ (by simp) ha hp) (hA _ ix b _ (by simp) hb hi)
   ·simp at hk
  ·simp at hk
 ·simp at hc
theorem agA {x:Operand}{i:Nat}(hc:aX P cx aL ⟨dst,.extract x i,type,pos,after,guard⟩=some k)(hk:runK E rec draw st env k=some (v,st'))(hS:aH σ st.base.length β I Wr wd (st.base++st.loc) w)
  (hA:bU P E cx σ β I w st env aL ρ [x]):Yields P ⟨dst,.extract x i,type,pos,after,guard⟩ ρ w (Post mn σ st.base.length (st.base++st.loc).length β I Wr wd w st' v):=by
 simp only[aX]at hc;split at hc<;>simp at hc;subst hc;rename_i a ha;simp only[runK]at hk;split at hk<;>(try simp at hk)
 ·rename_i vs hp;split at hk<;>simp at hk;obtain⟨rfl,rfl⟩:=hk;rename_i hv;exact adu hv hS (hA _ x a _ (by simp) ha hp)
 ·rename_i vs hp;split at hk<;>simp at hk;obtain⟨rfl,rfl⟩:=hk;rename_i hv;exact adv hv hS (hA _ x a _ (by simp) ha hp)
theorem ajd {t:TypeId}{x y:Operand}(bC:∀ f g,cx.gid f=some g->σ g=some f)(hc:aX P cx aL ⟨dst,.makeSlice t x y,type,pos,after,guard⟩=some k)(hk:runK E rec draw st env k=some (v,st'))(hS:aH σ st.base.length β I Wr wd (st.base++st.loc) w)
  (hA:bU P E cx σ β I w st env aL ρ [x,y]):Yields P ⟨dst,.makeSlice t x y,type,pos,after,guard⟩ ρ w (Post mn σ st.base.length (st.base++st.loc).length β I Wr wd w st' v):=by
 simp only[aX]at hc;split at hc
 ·rename_i e ht;split at hc
  ·rename_i m b g z a a' hm hb hg hz ha ha';split at hc<;>simp at hc;subst hc;rename_i hh;simp only[not_or]at hh;obtain⟨h0,h1,h2⟩:=hh;simp only[runK]at hk;split at hk
   ·rename_i kl l kc c hp hq;split at hk<;>simp only[Qe0,Qm2,reduceCtorEq]at hk;obtain⟨rfl,rfl⟩:=hk;rename_i hh;obtain⟨g0,g1,g2,g3⟩:=hh;exact ai' bC ht hm hb hz omK (by simpa using h1) h2 g0 g1 g2 g3 hS (hA _ x a _ (by simp) ha hp) (hA _ y a' _ (by simp) ha' hq)
   ·simp at hk
  ·simp at hc
 ·simp at hc
theorem aag {t:TypeId}{x:Operand}{lo hi:Option Operand}(hc:aX P cx aL ⟨dst,.slice t x lo hi none,type,pos,after,guard⟩=some k)(hk:runK E rec draw st env k=some (v,st'))(hS:aH σ st.base.length β I Wr wd (st.base++st.loc) w)
  (hA:bU P E cx σ β I w st env aL ρ ([x]++lo.toList++hi.toList)):Yields P ⟨dst,.slice t x lo hi none,type,pos,after,guard⟩ ρ w (Post mn σ st.base.length (st.base++st.loc).length β I Wr wd w st' v):=by
 have aah:∀ o,lo=some o->o ∈ [x]++lo.toList++hi.toList:=fun o h=>by subst h;simp
 have aai:∀ o,hi=some o->o ∈ [x]++lo.toList++hi.toList:=fun o h=>by subst h;simp
 simp only[aX]at hc;split at hc
 ·rename_i e ht;split at hc
  ·rename_i m a l h hm ha hl hh;split at hc<;>simp at hc;subst hc;simp only[runK]at hk;split at hk
   ·rename_i sz es hp;split at hk
    ·rename_i li hi' e1 e2;split at hk<;>simp at hk;obtain⟨rfl,rfl⟩:=hk;rename_i hb;obtain⟨rfl,b0,b1,b2⟩:=hb;exact Rp ht hm (iN hA aah hl e1) (iN hA aai hh e2) b0 b1 b2 hS (hA _ x a _ (by simp) ha hp)
    ·simp at hk
   ·rename_i sz hp;split at hk
    ·rename_i li hi' e1 e2;split at hk<;>simp at hk;obtain⟨rfl,rfl⟩:=hk;rename_i hb;obtain⟨rfl,rfl,rfl⟩:=hb;exact Ro ht hm (iN hA aah hl e1) (iN hA aai hh e2) hS (hA _ x a _ (by simp) ha hp)
    ·simp at hk
   ·rename_i q az sz off n hp;split at hk
    ·rename_i li hi' e1 e2;split at hk<;>simp at hk;obtain⟨rfl,rfl⟩:=hk;rename_i hb;obtain⟨rfl,b0,b1,b2⟩:=hb;exact Nw ht hm (iN hA aah hl e1) (iN hA aai hh e2) b0 b1 b2 hS (hA _ x a _ (by simp) ha hp)
    ·simp at hk
   ·simp at hk
  ·simp at hc
 ·rename_i ht;split at hc<;>simp at hc;subst hc;rename_i a l h ha hl hh;simp only[runK]at hk;split at hk
  ·rename_i s hp;split at hk
   ·rename_i li hi' e1 e2;split at hk<;>simp at hk;obtain⟨rfl,rfl⟩:=hk;rename_i hb;exact WM ht (iN hA aah hl e1) (iN hA aai hh e2) hb.1 hb.2.1 hb.2.2 hS (hA _ x a _ (by simp) ha hp)
   ·simp at hk
  ·simp at hk
 ·simp at hc
theorem agB {f:FuncId}{first captured:Array Operand}(bC:∀ f g,cx.gid f=some g->σ g=some f)(hc:aX P cx aL ⟨dst,.makeFunc (.func f) first captured,type,pos,after,guard⟩=some k)(hk:runK E rec draw st env k=some (v,st')) 
  (hS:aH σ st.base.length β I Wr wd (st.base++st.loc) w) (hA:bU P E cx σ β I w st env aL ρ (first.toList++captured.toList)) :
  Yields P ⟨dst,.makeFunc (.func f) first captured,type,pos,after,guard⟩ ρ w (Post mn σ st.base.length (st.base++st.loc).length β I Wr wd w st' v):=by
 simp only[aX]at hc;split at hc<;>simp at hc;subst hc;rename_i g fs cs hg hfs hcs;simp only[runK]at hk;split at hk
 ·rename_i fv cv h1 h2;have r1:=jB hA (fun x hx=>by simp at hx ⊢;exact .inl hx) hfs h1;have r2:=jB hA (fun x hx=>by simp at hx ⊢;exact .inr hx) hcs h2;have hy:=agu (mn:=mn) (P:=P) (dst:=dst) (type:=type) (pos:=pos) (after:=after) (guard:=guard) (first:=first) (captured:=captured) (bC _ _ hg) (by simpa using r1) (by simpa using r2) hS;split at hk<;>simp at hk
  ·obtain⟨rfl,rfl⟩:=hk;rename_i hh;rw[if_pos (by simpa using hh)]at hy;exact hy
  ·obtain⟨rfl,rfl⟩:=hk;rename_i hh;rw[if_neg (by simpa using hh)]at hy;exact hy
 ·simp at hk
theorem mapM_pure {agg:Bool}{sz:Nat}:∀ {xs:List FV} {ys:List D},xs.mapM (kS agg sz)=some ys->ys.length=xs.length/\∀ (i:Nat) (x:FV) (y:D),xs[i]?=some x->ys[i]?=some y->kS agg sz x=some y
 | [],ys,h=>by simp at h;subst h;exact⟨rfl,fun i x y h=>by simp at h⟩
 | x::xs,ys,h=>by
  rw[List.mapM_cons]at h;cases h1:kS agg sz x with
  | none=>rw[h1]at h;simp at h
  | some y =>
   cases h2:xs.mapM (kS agg sz) with
   | none=>rw[h1,h2]at h;simp at h
   | some s =>
    rw[h1,h2]at h;simp at h;subst h;obtain⟨a,b⟩:=mapM_pure h2;refine⟨by simp[a],fun i x' y' hx hy => ?_⟩;cases i with
    | zero=>simp at hx hy;subst hx;subst hy;exact h1
    | succ i=>exact b i x' y' (by simpa using hx) (by simpa using hy)
theorem agC {t:TypeId}{len:Nat}{parts:Array (Nat × Operand)}(bC:∀ f g,cx.gid f=some g->σ g=some f)(hc:aX P cx aL ⟨dst,.buildSlice t len parts,type,pos,after,guard⟩=some k)(hk:runK E rec draw st env k=some (v,st')) 
  (hS:aH σ st.base.length β I Wr wd (st.base++st.loc) w) (hA:bU P E cx σ β I w st env aL ρ (parts.toList.map (·.2))):Yields P ⟨dst,.buildSlice t len parts,type,pos,after,guard⟩ ρ w (Post mn σ st.base.length (st.base++st.loc).length β I Wr wd w st' v):=by
 simp only[aX]at hc;split at hc
 ·rename_i e ht;split at hc
  ·rename_i m g z as hm hg hz has;split at hc<;>simp at hc;subst hc;rename_i hh;simp only[not_or]at hh;obtain⟨h0,h1,h2,h3,h4⟩:=hh;have hal:as.length=parts.toList.length:=by
    have:∀ (uH:List TypeId) (l:List Operand) (as:List Arg),gP P cx aL uH l=some as->as.length=l.length:=by
     intro uH l
     induction l generalizing uH with
     | nil=>intro as h;simp[gP]at h;subst h;rfl
     | cons x l ih =>
      intro as h;simp only[gP]at h;split at h<;>simp at h;subst h;rename_i h2;simp[ih _ _ h2]
    simpa using this _ _ _ has
   simp only[runK]at hk;have e1:(((parts.toList.map (·.1)).zip as).map (·.2))=as:=by
    rw[List.map_snd_zip];simp[hal]
   have e2:(((parts.toList.map (·.1)).zip as).map (·.1))=parts.toList.map (·.1):=by
    rw[List.map_fst_zip];simp[hal]
   rw[e1,e2]at hk;split at hk
   ·rename_i xs hxs;split at hk
    ·rename_i ys hys;split at hk
     ·rename_i es hes;have r1:=jB hA (fun x hx=>hx) has hxs;obtain⟨p1,p2⟩:=mapM_pure hys;have hy:=agt (mn:=mn) (ρ:=ρ) (dst:=dst) (type:=type) (pos:=pos) (after:=after) (guard:=guard) (parts:=parts) (ys:=ys) bC ht hm hz omK (by simpa using h3) h4 omK omK (by rw[p1,<-r1.1];simp)
       (fun i p y hp hy=>by
        have hlt:i<xs.length:=by rw[<-p1];exact(bD hy)
        have hx:xs[i]?=some xs[i]:=Qa0 _;have hpe:=p2 i _ y hx hy;exact Ez hpe (r1.2 i _ _ hx (by simp[hp]))) hes hS
      split at hk<;>simp at hk
      ·obtain⟨rfl,rfl⟩:=hk;rename_i hl;rw[if_pos hl]at hy;exact hy
      ·obtain⟨rfl,rfl⟩:=hk;rename_i hl;rw[if_neg hl]at hy;exact hy
     ·simp at hk
    ·simp at hk
   ·simp at hk
  ·simp at hc
 ·simp at hc
theorem xQ {place:Nat->Option (Nat × TypeId)}{vU:Nat->Option (Nat × Nat)}(hpl:∀ i off ty m,place i=some (off,ty)->aY P ty=some m->vU i=some (off,m)){xs:List Operand}(hA:bU P E cx σ β I w st env aL ρ xs) :
  ∀ {parts:List (Nat × Operand)} {ps:List (Nat × Nat × Arg)} {fs:List FV},(∀ p ∈ parts,p.2 ∈ xs)->pY P cx aL place parts=some ps->fG E st env (ps.map (·.2.2))=some fs ->
   parts.length=((ps.map (·.1)).zip ((ps.map (·.2.1)).zip fs)).length /\
   ∀ (i:Nat) (p:Nat × Operand) (o:Nat × Nat × FV),parts[i]?=some p->((ps.map (·.1)).zip ((ps.map (·.2.1)).zip fs))[i]?=some o->vU p.1=some (o.1,o.2.1)/\aI σ β I w st.base.length o.2.2 (ρ p.2)
 | [],ps,fs,_,hc,hf=>by
  simp[pY]at hc;subst hc;exact⟨rfl,fun i p o h=>by simp at h⟩
 | (i,x)::parts,ps,fs,hm,hc,hf=>by
  simp only[pY]at hc;split at hc
  ·simp at hc
  ·rename_i off ty hp;split at hc<;>simp at hc;subst hc;rename_i m y s h1 h2 h3;simp only[Qd2,fG]at hf;split at hf<;>simp at hf;subst hf;rename_i f fs' h4 h5;obtain⟨g1,g2⟩:=xQ hpl hA (fun p hp=>hm p (by simp[hp])) h3 h5;refine⟨by simp at g1 ⊢;omega,fun j p o hj ho => ?_⟩;cases j with
   | zero =>
    simp at hj ho;subst hj;subst ho;exact⟨hpl i off ty m hp h1,hA _ x y f (hm (i,x) (by simp)) h2 h4⟩
   | succ j=>exact g2 j p o (by simpa using hj) (by simpa using ho)
theorem aaj {t:TypeId}{parts:Array (Nat × Operand)}(bC:∀ f g,cx.gid f=some g->σ g=some f)(hc:aX P cx aL ⟨dst,.build t parts,type,pos,after,guard⟩=some k)(hk:runK E rec draw st env k=some (v,st')) 
  (hS:aH σ st.base.length β I Wr wd (st.base++st.loc) w) (hA:bU P E cx σ β I w st env aL ρ (parts.toList.map (·.2))):Yields P ⟨dst,.build t parts,type,pos,after,guard⟩ ρ w (Post mn σ st.base.length (st.base++st.loc).length β I Wr wd w st' v):=by
 have hmem:∀ p ∈ parts.toList,p.2 ∈ parts.toList.map (·.2):=fun p hp=>Qg2.2 ⟨p,hp,rfl⟩
 have fin:∀ (z:List D) (ps:List (Nat × Nat × Arg)) (place:Nat->Option (Nat × TypeId)) (vU:Nat->Option (Nat × Nat)),jY cx P t=some z->k=.build z ps->pY P cx aL place parts.toList=some ps ->
   (∀ i off ty m,place i=some (off,ty)->aY P ty=some m->vU i=some (off,m)) ->
   ((∃ fs,P.underlying t=some (.struct fs)/\(∀ f ∈ fs.toList,(aY P f.type).isSome)/\vU=fun i=>(fs[i]?).map fun f=>(f.offset,(aY P f.type).getD 0)) \/
   (∃ len e sz,P.underlying t=some (.array len e)/\aY P e=some sz/\vU=fun i=>some (i*sz,sz))) ->
   Yields P ⟨dst,.build t parts,type,pos,after,guard⟩ ρ w (Post mn σ st.base.length (st.base++st.loc).length β I Wr wd w st' v):=by
  intro z ps place vU hz hke hps hpl ht;subst hke;simp only[runK]at hk;split at hk
  ·rename_i xs hxs;split at hk<;>simp at hk;obtain⟨rfl,rfl⟩:=hk;rename_i cs hcs;obtain⟨q1,q2⟩:=xQ hpl hA hmem hps hxs;exact Z9 bC hz ht q1 q2 hcs hS
  ·simp at hk
 simp only[aX]at hc;split at hc
 ·rename_i fs z ht hz;split at hc
  ·simp at hc
  ·rename_i hall;split at hc<;>simp at hc;rename_i ps hps;refine fin z ps _ (fun i=>(fs[i]?).map fun f=>(f.offset,(aY P f.type).getD 0)) hz hc.symm hps ?_ (.inl ⟨fs,ht,?_,rfl⟩)
   ·intro i off ty m h1 h2;split at h1
    ·rename_i f hf;cases h1;simp[hf,h2]
    ·cases h1
   ·intro f hf;cases hs:aY P f.type with
    | some m=>rfl
    | none=>exact absurd (Xh2.2 ⟨f,hf,by simp[hs]⟩) hall
 ·rename_i len e z ht hz;split at hc
  ·rename_i m hm;split at hc<;>simp at hc;rename_i ps hps;refine fin z ps _ (fun i=>some (i*m,m)) hz hc.symm hps ?_ (.inr ⟨len,e,m,ht,hm,rfl⟩);intro i off ty m' h1 h2;cases h1;rw[hm]at h2;cases h2;rfl
  ·simp at hc
 ·simp at hc
theorem lF {P:Program}{f:FV}{x:Value}{r:Nat}(hr:aI σ β I w st.base.length f x)(hf:(∃ sz,f=.d (.n sz)/\r=0)\/(∃ sz es,f=.d (.s sz es)/\r=es.length)\/(∃ q az sz off,f=.ls q az sz off r)) :
  ∃ a c,x=.slice a r c:=by
 rcases hf with ⟨sz,rfl,rfl⟩|⟨sz,es,rfl,rfl⟩|⟨q,az,sz,off,rfl⟩
 ·exact⟨_,_,nD hr⟩
 ·cases hr with
  | d h=>cases h with
   | s0=>exact⟨_,_,rfl⟩
   | s1=>exact⟨_,_,rfl⟩
   | s u h1 h2 h3 h4 h5 h6=>exact⟨_,_,rfl⟩
 ·obtain⟨b,bo,cap,o,h1,h2,h3,h4⟩:=yV hr;exact⟨_,_,h4⟩
theorem Rw {b:Builtin}{uH:Array TypeId}{args:Array Operand}(bC:∀ f g,cx.gid f=some g->σ g=some f)(hc:aX P cx aL ⟨dst,.call {callee:=.builtin b,args:=args,argTypes:=uH},type,pos,after,guard⟩=some k)
  (hk:runK E rec draw st env k=some (v,st')) (hdt:k.loud draw=true->jf st.base.length st' wd) (hS:aH σ st.base.length β I Wr wd (st.base++st.loc) w) (hA:bU P E cx σ β I w st env aL ρ args.toList) :
  Yields P ⟨dst,.call {callee:=.builtin b,args:=args,argTypes:=uH},type,pos,after,guard⟩ ρ w (Post mn σ st.base.length (st.base++st.loc).length β I Wr wd w st' v):=by
 simp only[aX]at hc;split at hc
 ·rename_i t x e1 e2;have h1:uH=#[t]:=by apply Q22;simpa using e1
  have h2:args=#[x]:=by apply Q22;simpa using e2
  subst h1;subst h2;split at hc
  ·rename_i e ht;simp at hc;obtain⟨a,ha,hke⟩:=hc;subst hke;simp only[runK]at hk;have hr:=fun f hf=>hA _ x a f (by simp) ha hf
   split at hk<;>simp only[Qe0,Qm2,reduceCtorEq]at hk
   ·rename_i sz hp;obtain⟨rfl,rfl⟩:=hk;obtain⟨aa,c,hx⟩:=lF (P:=P) (r:=0) (hr _ hp) (.inl ⟨_,rfl,rfl⟩);exact sS ht hx hS
   ·rename_i sz es hp;obtain⟨rfl,rfl⟩:=hk;obtain⟨aa,c,hx⟩:=lF (P:=P) (r:=es.length) (hr _ hp) (.inr (.inl ⟨_,_,rfl,rfl⟩));exact sS ht hx hS
   ·rename_i q az sz off n hp;obtain⟨rfl,rfl⟩:=hk;obtain⟨aa,c,hx⟩:=lF (P:=P) (r:=n) (hr _ hp) (.inr (.inr ⟨_,_,_,_,rfl⟩));exact sS ht hx hS
  ·rename_i ht;simp at hc;obtain⟨a,ha,hke⟩:=hc;subst hke;simp only[runK]at hk;split at hk<;>simp only[Qe0,Qm2,reduceCtorEq]at hk;rename_i s hp;obtain⟨rfl,rfl⟩:=hk;exact HY ht (hA _ x a _ (by simp) ha hp).val hS
  ·simp at hc
 ·rename_i t x e1 e2;have h1:uH=#[t]:=by apply Q22;simpa using e1
  have h2:args=#[x]:=by apply Q22;simpa using e2
  subst h1;subst h2;split at hc
  ·rename_i e ht;simp at hc;obtain⟨a,ha,hke⟩:=hc;subst hke;simp only[runK]at hk;split at hk<;>simp only[Qe0,Qm2,reduceCtorEq]at hk;rename_i sz hp;obtain⟨rfl,rfl⟩:=hk;exact Rn ht (hA _ x a _ (by simp) ha hp) hS
  ·simp at hc
 ·rename_i t x e1 e2;have h1:uH=#[t]:=by apply Q22;simpa using e1
  have h2:args=#[x]:=by apply Q22;simpa using e2
  subst h1;subst h2;split at hc
  ·rename_i e ht;split at hc
   ·rename_i m g z a hm hg hz ha;split at hc<;>simp at hc;subst hc;rename_i hh;simp only[not_or]at hh;obtain⟨h0,hzl,hgg⟩:=hh;simp only[runK]at hk;split at hk
    ·rename_i eG hp;split at hk<;>simp only[Qe0,Qm2,reduceCtorEq]at hk;obtain⟨rfl,rfl⟩:=hk;obtain⟨aa,c,hx⟩:=lF (P:=P) (r:=0) (hA _ x a _ (by simp) ha hp) (.inl ⟨_,rfl,rfl⟩);exact xO (f:=.u) ht hx hS
    ·rename_i q az eG off n hp;split at hk
     ·rename_i hn0;subst hn0;simp only[Qe0,Qm2]at hk;obtain⟨rfl,rfl⟩:=hk;obtain⟨aa,c,hx⟩:=lF (P:=P) (r:=0) (hA _ x a _ (by simp) ha hp) (.inr (.inr ⟨_,_,_,_,rfl⟩));exact xO (f:=.u) ht hx hS
     ·rename_i hn0;split at hk
      ·rename_i jC WB es hrow;split at hk<;>simp only[Qe0,Qm2,reduceCtorEq]at hk;obtain⟨rfl,rfl⟩:=hk;rename_i hg2;obtain⟨rfl,rfl,rfl,g1⟩:=hg2;exact Z8 bC ht hm hz (by simpa using hzl) hgg omK hrow g1 (hdt rfl) hS (hA _ x a _ (by simp) ha hp)
      ·simp at hk
    ·simp at hk
   ·simp at hc
  ·simp at hc
 ·rename_i t u x y e1 e2;have h1:uH=#[t,u]:=by apply Q22;simpa using e1
  have h2:args=#[x,y]:=by apply Q22;simpa using e2
  subst h1;subst h2;split at hc<;>simp at hc;subst hc;rename_i a b' _ ha hb;simp only[runK]at hk;split at hk<;>simp at hk;obtain⟨rfl,rfl⟩:=hk;rename_i hp hq;exact ady hS (hA _ x a _ (by simp) ha hp).val (hA _ y b' _ (by simp) hb hq).val
 ·rename_i t u x y e1 e2;have h1:uH=#[t,u]:=by apply Q22;simpa using e1
  have h2:args=#[x,y]:=by apply Q22;simpa using e2
  subst h1;subst h2;split at hc<;>simp at hc;subst hc;rename_i a b' _ ha hb;simp only[runK]at hk;split at hk<;>simp at hk;obtain⟨rfl,rfl⟩:=hk;rename_i hp hq;exact adz hS (hA _ x a _ (by simp) ha hp).val (hA _ y b' _ (by simp) hb hq).val
 ·rename_i t u x y e1 e2;have h1:uH=#[t,u]:=by apply Q22;simpa using e1
  have h2:args=#[x,y]:=by apply Q22;simpa using e2
  subst h1;subst h2;split at hc
  ·rename_i e k0 ht hu;split at hc
   ·rename_i m bb g z a a' hm hb hg hz ha ha';split at hc<;>simp at hc;subst hc;rename_i hh;simp only[not_or]at hh;obtain⟨h0,hzl,hgg⟩:=hh;simp only[runK]at hk;split at hk
    ·rename_i eG kk l hp hq;split at hk<;>simp only[Qe0,Qm2,reduceCtorEq]at hk;obtain⟨rfl,rfl⟩:=hk;rename_i hc2;obtain⟨rfl,c1,c2,c3⟩:=hc2;exact adx bC ht hu hm hb hz omK (by simpa using hzl) hgg c1 c2 c3 hS (hA _ x a _ (by simp) ha hp) (hA _ y a' _ (by simp) ha' hq)
    ·simp at hk
   ·simp at hc
  ·rename_i e e' ht hu;split at hc
   ·split at hc
    ·rename_i m bb z a a' hm hb hz ha ha';split at hc<;>simp at hc;subst hc;rename_i hh;simp only[not_or]at hh;obtain⟨h0,hzl⟩:=hh;simp only[runK]at hk;split at hk
     ·rename_i fx fy hp hq;split at hk
      ·simp at hk
      ·rename_i ys hys;split at hk
       ·rename_i eG;split at hk
        ·rename_i hg;obtain⟨rfl,g1,g2⟩:=hg;have hy:=Rl (mn:=mn) (dst:=dst) (type:=type) (pos:=pos) (after:=after) (guard:=guard) (t:=t) (u:=u) bC ht hu hm hb hz (by simpa using hzl) omK hys g1 g2 hS (hA _ x a _ (by simp) ha hp) (hA _ y a' _ (by simp) ha' hq);split at hk<;>simp at hk
         ·obtain⟨rfl,rfl⟩:=hk;rename_i hemp;rw[if_pos hemp]at hy;exact hy
         ·obtain⟨rfl,rfl⟩:=hk;rename_i hemp;rw[if_neg hemp]at hy;exact hy
        ·simp at hk
       ·rename_i q az eG off n;split at hk
        ·rename_i jC WB es hrow;split at hk<;>simp at hk;obtain⟨rfl,rfl⟩:=hk;rename_i hg;obtain⟨rfl,rfl,rfl,g1,g2,g3⟩:=hg;exact WK bC ht hu hm hb hz (by simpa using hzl) hrow g1 hys g2 g3 (hdt (by cases a<;>first|rfl|(simp[dA]at hp))) hS (hA _ x a _ (by simp) ha hp) (hA _ y a' _ (by simp) ha' hq)
        ·simp at hk
       ·simp at hk
     ·simp at hk
    ·simp at hc
   ·simp at hc
  ·simp at hc
 ·simp at hc
theorem aak {t:TypeId}{r:Option Operand}(hc:aX P cx aL ⟨dst,.makeMap t r,type,pos,after,guard⟩=some k)(hk:runK E rec draw st env k=some (v,st'))(hS:aH σ st.base.length β I Wr wd (st.base++st.loc) w) :
  Yields P ⟨dst,.makeMap t r,type,pos,after,guard⟩ ρ w (Post mn σ st.base.length (st.base++st.loc).length β I Wr wd w st' v):=by
 cases r with
 | some r=>simp[aX]at hc
 | none =>
  simp only[aX]at hc;split at hc<;>simp at hc;subst hc;simp only[runK,Qe0,Qm2]at hk;obtain⟨rfl,rfl⟩:=hk;exact aaa hS
theorem adE {t:TypeId}{x ix:Operand}{ok:Bool}(bC:∀ f g,cx.gid f=some g->σ g=some f)(hc:aX P cx aL ⟨dst,.lookup t x ix ok,type,pos,after,guard⟩=some k)(hk:runK E rec draw st env k=some (v,st'))(hS:aH σ st.base.length β I Wr wd (st.base++st.loc) w)
  (hA:bU P E cx σ β I w st env aL ρ [x,ix]):Yields P ⟨dst,.lookup t x ix ok,type,pos,after,guard⟩ ρ w (Post mn σ st.base.length (st.base++st.loc).length β I Wr wd w st' v):=by
 simp only[aX]at hc;split at hc
 ·rename_i kt e ht;split at hc<;>simp at hc;subst hc;rename_i a b z kind ha hb hz hT;simp only[runK]at hk;split at hk
  ·rename_i q kd hq hkd;split at hk
   ·rename_i hok;split at hk
    ·rename_i es hes;have hx:=hA _ x a _ (by simp) ha hq;have hi:=hA _ ix b _ (by simp) hb hkd;split at hk
     ·rename_i y hy;cases hk;exact WO bC ht hT hz hok hes hy hS hx hi
     ·rename_i hy;cases hk;exact WO bC ht hT hz hok hes hy hS hx hi
     ·cases hk
    ·cases hk
   ·cases hk
  ·cases hk
 ·cases hc
theorem adF {t:TypeId}{m ix x:Operand}(hc:aX P cx aL ⟨dst,.mapUpdate t m ix x,type,pos,after,guard⟩=some k)(hk:runK E rec draw st env k=some (v,st'))(hdt:k.loud draw=true->jf st.base.length st' wd)(hS:aH σ st.base.length β I Wr wd (st.base++st.loc) w)
  (hA:bU P E cx σ β I w st env aL ρ [m,ix,x]):Yields P ⟨dst,.mapUpdate t m ix x,type,pos,after,guard⟩ ρ w (Post mn σ st.base.length (st.base++st.loc).length β I Wr wd w st' v):=by
 simp only[aX]at hc;split at hc
 ·rename_i kt e ht;split at hc<;>simp at hc;subst hc;rename_i a b c kind ha hb hcc hT;have hd:=hdt rfl;simp only[runK]at hk;split at hk
  ·rename_i q kd u hq hkd hu;split at hk
   ·rename_i hok;split at hk
    ·rename_i es hes;split at hk
     ·rename_i es' hy;cases hk;exact adA ht hT hok hes hy hd hS (hA _ m a _ (by simp) ha hq) (hA _ ix b _ (by simp) hb hkd) (hA _ x c _ (by simp) hcc hu)
     ·cases hk
    ·cases hk
   ·cases hk
  ·cases hk
 ·cases hc
end step
end
section
theorem eO (n:Nat):∀ l:List FV,FV.aR n l=l.map (FV.aA n)
 | []=>by rw[FV.aR];rfl
 | x::l=>by rw[FV.aR,eO n l];rfl
theorem oJ (m:Nat):∀ l:List FV,FV.jk m l=l.map (FV.shift m)
 | []=>by rw[FV.jk];rfl
 | x::l=>by rw[FV.jk,oJ m l];rfl
section trans
variable {σ:Nat->Option FuncId} {β:Map} {I:Nat->Prop} {w:World} {n:Nat}
theorem aI.aA {v:FV}{x:Value}(h:aI σ β I w n v x)(n':Nat):aI σ β I w n' (v.aA n) x:=by
 induction h with
 | u x=>simp only[FV.aA];exact .u x
 | d h=>simp only[FV.aA];exact .d h
 | r h =>
  rename_i p off b bo cap;cases p<;>simp only[FV.aA]<;>exact .r (p:=.old _) h
 | e h =>
  rename_i p az sz i off b bo cap;cases p<;>simp only[FV.aA]<;>exact .e (p:=.old _) h
 | rc hb ho h=>simp only[FV.aA];exact .rc hb ho h
 | ls h hl ho =>
  rename_i p az sz off len b bo cap o;cases p<;>simp only[FV.aA]<;>exact .ls (p:=.old _) h hl ho
 | m h =>
  rename_i p b bo cap;cases p<;>simp only[FV.aA]<;>exact .m (p:=.old _) h
 | z=>simp only[FV.aA];exact .z
 | f h h1 h2 _ _ ih1 ih2 =>
  simp only[FV.aA,eO];refine .f h (by simpa using h1) (by simpa using h2) (fun i c x hc hx => ?_) (fun i c x hc hx => ?_)
  ·simp only[Qb1,Qf1]at hc;obtain⟨d,hd,rfl⟩:=hc;exact ih1 i d x hd hx
  ·simp only[Qb1,Qf1]at hc;obtain⟨d,hd,rfl⟩:=hc;exact ih2 i d x hd hx
 | a hl _ ih =>
  simp only[FV.aA,eO];refine .a (by simpa using hl) (fun i c x hc hx => ?_);simp only[Qb1,Qf1]at hc;obtain⟨d,hd,rfl⟩:=hc;exact ih i d x hd hx
 | t hl _ ih =>
  simp only[FV.aA,eO];refine .t (by simpa using hl) (fun i c x hc hx => ?_);simp only[Qb1,Qf1]at hc;obtain⟨d,hd,rfl⟩:=hc;exact ih i d x hd hx
theorem aI.shift {v:FV}{x:Value}(h:aI σ β I w 0 v x){β':Map}{n m:Nat}(hβ:∀ i az y,β i az=some y->β' (n+(m+i)) az=some y):aI σ β' I w n (v.shift m) x:=by
 generalize hz:0=z at h
 induction h with
 | u x=>simp only[FV.shift];exact .u x
 | d h=>simp only[FV.shift];exact .d h
 | r h =>
  subst hz;rename_i p off b bo cap;cases p<;>simp only[FV.shift]<;>exact .r (p:=.loc _) (hβ _ _ _ (by simpa[Ref.abs] using h))
 | e h =>
  subst hz;rename_i p az sz i off b bo cap;cases p<;>simp only[FV.shift]<;>exact .e (p:=.loc _) (hβ _ _ _ (by simpa[Ref.abs] using h))
 | rc hb ho h=>simp only[FV.shift];exact .rc hb ho h
 | ls h hl ho =>
  subst hz;rename_i p az sz off len b bo cap o;cases p<;>simp only[FV.shift]<;>exact .ls (p:=.loc _) (hβ _ _ _ (by simpa[Ref.abs] using h)) hl ho
 | m h =>
  subst hz;rename_i p b bo cap;cases p<;>simp only[FV.shift]<;>exact .m (p:=.loc _) (hβ _ _ _ (by simpa[Ref.abs] using h))
 | z=>simp only[FV.shift];exact .z
 | f h h1 h2 _ _ ih1 ih2 =>
  simp only[FV.shift,oJ];refine .f h (by simpa using h1) (by simpa using h2) (fun i c x hc hx => ?_) (fun i c x hc hx => ?_)
  ·simp only[Qb1,Qf1]at hc;obtain⟨d,hd,rfl⟩:=hc;exact ih1 i d x hd hx
  ·simp only[Qb1,Qf1]at hc;obtain⟨d,hd,rfl⟩:=hc;exact ih2 i d x hd hx
 | a hl _ ih =>
  simp only[FV.shift,oJ];refine .a (by simpa using hl) (fun i c x hc hx => ?_);simp only[Qb1,Qf1]at hc;obtain⟨d,hd,rfl⟩:=hc;exact ih i d x hd hx
 | t hl _ ih =>
  simp only[FV.shift,oJ];refine .t (by simpa using hl) (fun i c x hc hx => ?_);simp only[Qb1,Qf1]at hc;obtain⟨d,hd,rfl⟩:=hc;exact ih i d x hd hx
end trans
section pW
variable {σ:Nat->Option FuncId} {β:Map} {I Wr:Nat->Prop} {wd:Nat->Prop} {w:World} {n:Nat} {H:List ae}
theorem aH.adG (h:aH σ n β I Wr wd H w){I':Nat->Prop}(hm:∀ b,I b->I' b)(hlt:∀ b,I' b->b<w.heap.size)(hn:∀ (k:Nat) (o:ae) b bo cap,H[k]?=some o->o.live β k=some (b,bo,cap)->¬ I' b) :
  aH σ n β I' Wr wd H w:=by
 refine⟨hlt,h.blt,h.jX,h.dom,h.mh,fun k o b bo cap h1 h2=>⟨(h.wr k o b bo cap h1 h2).1,hn k o b bo cap h1 h2⟩,?_,?_,?_,h.inj,?_⟩
 ·intro k cs b bo cap h1 h2;obtain⟨a0,c,e',a1,a2,a3⟩:=h.box k cs b bo cap h1 h2;exact⟨a0,c,e',a1,a2,fun j f x e1 e2=>(a3 j f x e1 e2).mono (fun _ _ _ h=>h) hm (fun _ _=>rfl)⟩
 ·intro k az eG es b bo cap h1 h2;obtain⟨a0,c,e',a1,a2⟩:=h.row k az eG es b bo cap h1 h2;exact⟨a0.mono hm (fun _ _=>rfl) rfl,c,e',a1,a2⟩
 ·intro k az eG es b bo cap h1 h2;obtain⟨a0,a1⟩:=h.gT k az eG es b bo cap h1 h2;exact⟨a0.mono hm (fun _ _=>rfl) rfl,hm _ a1⟩
 ·intro k es b bo cap h1 h2;obtain⟨ms,clock,a1,a2⟩:=h.map k es b bo cap h1 h2;exact⟨ms,clock,a1,a2.mono hm (fun _ _=>rfl)⟩
theorem aH.afd (h:aH σ n β I Wr wd H w){n':Nat}{Wr':Nat->Prop}{wd':Nat->Prop}(hnew:∀ b,w.heap.size<=b->Wr' b)
  (hw:∀ (k:Nat) (o:ae) b bo cap,H[k]?=some o->o.live β k=some (b,bo,cap)->wd' k->Wr' b)
  (Rx:∀ (k:Nat) cs b bo cap,H[k]?=some (.box cs)->β k 0=some (b,bo,cap)->∀ (j:Nat) (f:FV) (x:Value),cs[j]?=some f->aI σ β I w n f x->aI σ β I w n' f x):aH σ n' β I Wr' wd' H w:=by
 refine⟨h.lH,h.blt,hnew,h.dom,h.mh,fun k o b bo cap h1 h2=>⟨hw k o b bo cap h1 h2,(h.wr k o b bo cap h1 h2).2⟩,?_,h.row,h.gT,h.inj,h.map⟩;intro k cs b bo cap h1 h2;obtain⟨a0,c,e',a1,a2,a3⟩:=h.box k cs b bo cap h1 h2;exact⟨a0,c,e',a1,a2,fun j f x e1 e2=>Rx k cs b bo cap h1 h2 j f x e1 (a3 j f x e1 e2)⟩
theorem aH.aam (h:aH σ n β I Wr wd H w){k az sz:Nat}{es:List D}(hk:H[k]?=some (.row az sz es)) :
  aH σ n β (fun b=>I b\/∃ bo cap,β k az=some (b,bo,cap)) Wr wd (H.set k (.gT az sz es)) w:=by
 have hkl:k<H.length:=(bD hk)
 have hm:∀ b,I b->(I b\/∃ bo cap,β k az=some (b,bo,cap)):=fun b hb=>.inl hb
 have hget:∀ (k1:Nat) (o1:ae),(H.set k (.gT az sz es))[k1]?=some o1->(k1≠k/\H[k1]?=some o1)\/(k1=k/\o1=.gT az sz es):=by
  intro k1 o1 h1
  by_cases hc:k1=k
  ·subst hc;rw[Qf0 hkl]at h1;exact .inr ⟨rfl,by simpa using h1.symm⟩
  ·rw[Qd0 (Ne.symm hc)]at h1;exact .inl ⟨hc,h1⟩
 refine⟨?_,h.blt,h.jX,?_,?_,?_,?_,?_,?_,?_,?_⟩
 ·rintro b (hb|⟨bo,cap,hb⟩)
  ·exact h.lH b hb
  ·exact h.blt _ _ _ _ _ hb
 ·intro k1 v x hx;rw[Xi0];exact h.dom k1 v x hx
 ·intro k1 aan sz1 es1 v x h1 h2;rcases hget k1 _ h1 with ⟨_,h3⟩|⟨rfl,h3⟩
  ·exact h.mh _ _ _ _ _ _ h3 h2
  ·cases h3
 ·intro k1 o b bo cap h1 h2;rcases hget k1 _ h1 with ⟨hc,h3⟩|⟨rfl,rfl⟩
  ·obtain⟨a1,a2⟩:=h.wr k1 o b bo cap h3 h2;refine⟨a1,?_⟩;rintro(hb|⟨vQ,cap',hb⟩)
   ·exact a2 hb
   ·exact hc (h.inj k1 k o (.row az sz es) b bo cap vQ cap' h3 hk h2 hb)
  ·cases h2
 ·intro k1 cs b bo cap h1 h2;rcases hget k1 _ h1 with ⟨_,h3⟩|⟨rfl,h3⟩
  ·obtain⟨a0,c,e',a1,a2,a3⟩:=h.box k1 cs b bo cap h3 h2;exact⟨a0,c,e',a1,a2,fun j f x e1 e2=>(a3 j f x e1 e2).mono (fun _ _ _ h=>h) hm (fun _ _=>rfl)⟩
  ·cases h3
 ·intro k1 aan sz1 es1 b bo cap h1 h2;rcases hget k1 _ h1 with ⟨_,h3⟩|⟨rfl,h3⟩
  ·obtain⟨a0,c,e',a1,a2⟩:=h.row k1 aan sz1 es1 b bo cap h3 h2;exact⟨a0.mono hm (fun _ _=>rfl) rfl,c,e',a1,a2⟩
  ·cases h3
 ·intro k1 aan sz1 es1 b bo cap h1 h2;rcases hget k1 _ h1 with ⟨_,h3⟩|⟨rfl,h3⟩
  ·obtain⟨a0,a1⟩:=h.gT k1 aan sz1 es1 b bo cap h3 h2;exact⟨a0.mono hm (fun _ _=>rfl) rfl,hm _ a1⟩
  ·cases h3;obtain⟨a0,_⟩:=h.row k1 az sz es b bo cap hk h2;exact⟨a0.mono hm (fun _ _=>rfl) rfl,.inr ⟨bo,cap,h2⟩⟩
 ·intro k1 k2 o1 o2 b bo cap vQ cap' h1 h2 h3 h4;rcases hget k1 _ h1 with ⟨_,h5⟩|⟨rfl,rfl⟩
  ·rcases hget k2 _ h2 with ⟨_,h6⟩|⟨rfl,rfl⟩
   ·exact h.inj k1 k2 o1 o2 b bo cap vQ cap' h5 h6 h3 h4
   ·cases h4
  ·cases h3
 ·intro k1 es b bo cap h1 h2;rcases hget k1 _ h1 with ⟨_,h3⟩|⟨rfl,h3⟩
  ·obtain⟨ms,clock,a1,a2⟩:=h.map k1 es b bo cap h3 h2;exact⟨ms,clock,a1,a2.mono hm (fun _ _=>rfl)⟩
  ·cases h3
end pW
section freeze
variable {σ:Nat->Option FuncId} {β:Map} {Wr:Nat->Prop} {wd:Nat->Prop} {w:World}
structure DY (σ:Nat->Option FuncId)(β:Map)(I I' Wr:Nat->Prop)(wd:Nat->Prop)(st st':St)(w:World)(rs:List Ref):Prop where
 pW:aH σ st.base.length β I' Wr wd (st'.base++st'.loc) w
 im:∀ b,I b->I' b
 base:st'.base.length=st.base.length
 len:st'.loc.length=st.loc.length
 gZ:∀ b,I' b->I b\/∃ k o bo cap,(st.base++st.loc)[k]?=some o/\o.live β k=some (b,bo,cap)/\(st'.aP=true\/st.base.length<=k)
 keep:∀ (k:Nat) (o:ae),(st.base++st.loc)[k]?=some o->(st'.base++st'.loc)[k]?=some o\/∃ az sz es,o=.row az sz es/\(st'.base++st'.loc)[k]?=some (.gT az sz es)
 back:∀ (k:Nat) (o:ae),(st'.base++st'.loc)[k]?=some o->(st.base++st.loc)[k]?=some o\/∃ az sz es,o=.gT az sz es/\(st.base++st.loc)[k]?=some (.row az sz es)
 all:∀ p ∈ rs,∀ az sz es,(st.base++st.loc)[p.abs st.base.length]?=some (.row az sz es)->(st'.base++st'.loc)[p.abs st.base.length]?=some (.gT az sz es)
theorem iO:∀ (rs:List Ref) {I:Nat->Prop} {st:St},aH σ st.base.length β I Wr wd (st.base++st.loc) w->∃ I',DY σ β I I' Wr wd st (aK st rs) w rs
 | [],I,st,h=>⟨I,h,fun _ h=>h,rfl,rfl,fun _ h=>.inl h,fun _ _ h=>.inl h,fun _ _ h=>.inl h,fun p hp=>by simp at hp⟩
 | p::rs,I,st,h=>by
  simp only[aK];split
  ·rename_i az sz es hp;rw[St.eZ]at hp;have h1:=h.aam hp;have hb:=St.jP st p (.gT az sz es);rw[<-St.dE,<-hb]at h1;obtain⟨I',f⟩:=iO rs h1;have hset:=St.dE st p (.gT az sz es);have hkl:=(bD hp)
   have hget:∀ (k:Nat),(((st.bf p (.gT az sz es)).base++(st.bf p (.gT az sz es)).loc))[k]?=if k=p.abs st.base.length then some (.gT az sz es) else(st.base++st.loc)[k]?:=by
    intro k;rw[hset]
    by_cases hk:k=p.abs st.base.length
    ·rw[if_pos hk,hk,Qf0 hkl]
    ·rw[if_neg hk,Qd0 (Ne.symm hk)]
   refine⟨I',by rw[<-hb];exact f.pW,fun b hb=>f.im b (.inl hb),f.base.trans hb,f.len.trans (nH _ _ _),?_,?_,?_,?_⟩
   ·intro b hI';rcases f.gZ b hI' with (hI|⟨bo,cap,hβ⟩)|⟨k,o,bo,cap,g1,g2,g3⟩
    ·exact .inl hI
    ·rw[hb]at hβ;refine .inr ⟨_,_,bo,cap,hp,hβ,?_⟩;cases p with
     | loc i=>exact .inr (Nat.le_add_right _ _)
     | old i=>exact .inl ((Kept.aK rs _).aP rfl)
    ·rw[hget]at g1;split at g1
     ·cases g1;cases g2
     ·exact .inr ⟨k,o,bo,cap,g1,g2,by rw[hb]at g3;exact g3⟩
   ·intro k o hk
    by_cases hkp:k=p.abs st.base.length
    ·subst hkp;rw[hp]at hk;cases hk;have:=f.keep (p.abs st.base.length) (.gT az sz es) (by rw[hget,if_pos rfl]);rcases this with h|⟨_,_,_,h,_⟩
     ·exact .inr ⟨az,sz,es,rfl,h⟩
     ·cases h
    ·exact f.keep k o (by rw[hget,if_neg hkp];exact hk)
   ·intro k o hk;rcases f.back k o hk with h2|⟨jC,eG,es',h2,h3⟩
    ·rw[hget]at h2;split at h2
     ·rename_i hkp;cases h2;exact .inr ⟨az,sz,es,rfl,by rw[hkp];exact hp⟩
     ·exact .inl h2
    ·rw[hget]at h3;split at h3
     ·cases h3
     ·exact .inr ⟨jC,eG,es',h2,h3⟩
   ·intro q hq jC eG es' hrow
    by_cases XB:q.abs st.base.length=p.abs st.base.length
    ·rw[XB,hp]at hrow;cases hrow;have:=f.keep (p.abs st.base.length) (.gT az sz es) (by rw[hget,if_pos rfl]);rw[XB];rcases this with h|⟨_,_,_,h,_⟩
     ·exact h
     ·cases h
    ·rcases Qi1.1 hq with rfl|hq
     ·exact absurd rfl XB
     ·have:=f.all q hq jC eG es' (by rw[hb,hget,if_neg XB];exact hrow);rw[hb]at this;exact this
  ·rename_i hne;obtain⟨I',f⟩:=iO rs h;refine⟨I',f.pW,f.im,f.base,f.len,f.gZ,f.keep,f.back,?_⟩;intro q hq az sz es hrow;rcases Qi1.1 hq with rfl|hq
   ·exact absurd (by rw[St.eZ];exact hrow) (hne az sz es)
   ·exact f.all q hq az sz es hrow
end freeze
end
section
variable {mn:Prop}
section leave
variable {σ:Nat->Option FuncId} {β:Map} {I I' Wr:Nat->Prop} {wd:Nat->Prop} {w:World} {st st':St}
theorem G9 {p:Ref}{az sz off len:Nat}{x:Value}{es:List D}(hS:aH σ st.base.length β I Wr wd (st.base++st.loc) w)
  (hp:st.heap p=some (.row az sz es)\/st.heap p=some (.gT az sz es)) (hle:off+len<=es.length) (hr:aI σ β I w st.base.length (.ls p az sz off len) x)
  (hm:∀ b,I b->I' b) (hI:∀ b bo cap,β (p.abs st.base.length) az=some (b,bo,cap)->I' b):bB σ I' w (.s sz ((es.drop off).take len)) x:=by
 obtain⟨b,bo,cap,o,hβ,hlc,Il,rfl⟩:=yV hr;have hat:iX σ I w b bo cap sz es:=by
  rw[St.eZ]at hp;rcases hp with hp|hp
  ·exact(hS.row _ _ _ _ _ _ _ hp hβ).1
  ·exact(hS.gT _ _ _ _ _ _ _ hp hβ).1
 have hb:=hI b bo cap hβ;have hlen:((es.drop off).take len).length=len:=by simp;omega
 by_cases hoc:off<cap
 ·have ho:=Il hoc;have hrep:∀ (i:Nat) (e:D) (j:Nat) (c:D),((es.drop off).take len)[i]?=some e->e.cells[j]?=some c->∃ y,w.cell? ⟨b,o+i*sz+j,none⟩=some y/\bB σ I' w c y:=by
   intro i e j c he hc;rw[Qp1]at he;split at he
   ·rw[Qx2]at he;obtain⟨y,h1,h2⟩:=hat.at_ _ e he j c hc;refine⟨y,?_,h2.mono hm (fun _ _=>rfl)⟩;rw[ho,show bo+off*sz+i*sz+j=bo+(off+i)*sz+j by rw[Qq1];omega];exact h1
   ·cases he
  have:=bB.s (σ:=σ) (I:=I') (w:=w) (sz:=sz) (es:=(es.drop off).take len) (b:=b) (off:=o) (cap:=cap-off) (fun i j=>(w.cell? ⟨b,o+i*sz+j,none⟩).getD undef) hb omK
   (fun e he=>hat.wide e (Q21 (Qp0 he))) (fun e he=>hat.one e (Q21 (Qp0 he)))
   (fun i e j c he hc=>by obtain⟨y,h1,_⟩:=hrep i e j c he hc;simp only[h1,Q30])
   (fun i e j c he hc=>by obtain⟨y,h1,h2⟩:=hrep i e j c he hc;simp only[h1,Q30];exact h2)
  rw[hlen]at this;exact this
 ·have h0:len=0:=by omega
  subst h0;have:=bB.s (σ:=σ) (I:=I') (w:=w) (sz:=sz) (es:=[]) (b:=b) (off:=o) (cap:=cap-off) (fun _ _=>undef) hb (by simp) (by simp) (by simp) (fun i e j c he=>by simp at he) (fun i e j c he=>by simp at he);simpa using this
def RowsIn (β:Map)(I':Nat->Prop)(st:St)(rs:List Ref):Prop :=
 ∀ p ∈ rs,∀ az sz es b bo cap,(st.heap p=some (.row az sz es)\/st.heap p=some (.gT az sz es))->β (p.abs st.base.length) az=some (b,bo,cap)->I' b
theorem Ab {v v':FV}{x:Value}(hS:aH σ st.base.length β I Wr wd (st.base++st.loc) w)(h:leave1 st v=some v')(hr:aI σ β I w st.base.length v x)(hm:∀ b,I b->I' b)(hI:RowsIn β I' st v.ni) :
  aI σ β I' w st.base.length v' x:=by
 unfold leave1 at h;split at h
 ·cases h;cases hr with|d hr=>exact .d (hr.dw.mono hm (fun _ _=>rfl))
 ·cases h;cases hr with|z=>exact .d (.s1 _ _ _)
 ·rename_i p az sz off len;split at h<;>simp at h;subst h;rename_i es hes;simp only[elems,if_true]at hes;split at hes
  ·rename_i o ho;unfold ae.view at hes;split at hes
   ·split at hes<;>simp at hes;rename_i hh;obtain⟨rfl,rfl,hle⟩:=hh;subst hes;exact .d (G9 hS (.inl ho) hle hr hm (fun b bo cap hβ=>hI p (by simp[FV.ni]) _ _ _ b bo cap (.inl ho) hβ))
   ·split at hes<;>simp at hes;rename_i hh;obtain⟨rfl,rfl,hle⟩:=hh;subst hes;exact .d (G9 hS (.inr ho) hle hr hm (fun b bo cap hβ=>hI p (by simp[FV.ni]) _ _ _ b bo cap (.inr ho) hβ))
   ·simp at hes
  ·simp at hes
 ·cases h;exact hr.mono (fun _ _ _ h=>h) hm (fun _ _=>rfl)
theorem Ac:∀ {vs vs':List FV} {xs:List Value} (_:aH σ st.base.length β I Wr wd (st.base++st.loc) w) (_:ym st vs=some vs') (_:gy σ β I w st.base.length vs xs) (_:∀ b,I b->I' b)
  (_:RowsIn β I' st (vs.flatMap FV.ni)),gy σ β I' w st.base.length vs' xs
 | [],vs',xs,hS,h,hr,hm,hI=>by
  simp[ym]at h;subst h;exact⟨hr.1,fun i c x hc=>by simp at hc⟩
 | v::vs,vs',xs,hS,h,hr,hm,hI=>by
  simp only[ym]at h;split at h<;>simp at h;subst h;rename_i y s h1 h2
  match xs,hr with
  | [],hr=>exact absurd hr.1 (by simp)
  | x::xs,hr =>
   have r1:=Ab hS h1 (hr.2 0 v x rfl rfl) hm (fun p hp=>hI p (by simp[hp]));have r2:=Ac (xs:=xs) hS h2 ⟨by simpa using hr.1,fun i c x hc hx=>hr.2 (i+1) c x (by simpa using hc) (by simpa using hx)⟩ hm (fun p hp=>hI p (by
    simp only[Xc2,Qw2];exact .inr hp))
   refine⟨by simp[r2.1],fun i c z hc hz => ?_⟩;cases i with
   | zero=>simp at hc hz;subst hc;subst hz;exact r1
   | succ i=>exact r2.2 i c z (by simpa using hc) (by simpa using hz)
theorem KC {v v':FV}{x:Value}(hS:aH σ st.base.length β I Wr wd (st.base++st.loc) w)(h:leaves st v=some v')(hr:aI σ β I w st.base.length v x)(hm:∀ b,I b->I' b)(hI:RowsIn β I' st v.rows) :
  aI σ β I' w st.base.length v' x:=by
 unfold leaves at h;split at h
 ·cases h;cases hr with|d hr=>exact .d (hr.norm.mono hm (fun _ _=>rfl))
 ·split at h<;>simp at h;subst h;rename_i cs ds hds;cases hr with
  | a hl hr =>
   rename_i vs;have:=Ac (xs:=vs.toList) hS hds ⟨by simpa using hl,fun i c x hc hx=>hr i c x hc (by simpa using hx)⟩ hm hI;exact aI.SG (by simpa using this.1) (fun i c x hc hx=>this.2 i c x hc (by simpa using hx))
 ·rename_i h1 h2;refine Ab hS h hr hm ?_;have:v.ni=v.rows\/v.ni=[]:=by
   cases v<;>first|exact .inl rfl|exact .inr rfl
  rcases this with e|e
  ·rw[e];exact hI
  ·rw[e];intro p hp;simp at hp
theorem gD:∀ {vs vs':List FV} {xs:List Value} (_:aH σ st.base.length β I Wr wd (st.base++st.loc) w) (_:fV st vs=some vs') (_:gy σ β I w st.base.length vs xs) (_:∀ b,I b->I' b)
  (_:RowsIn β I' st (vs.flatMap FV.rows)),gy σ β I' w st.base.length vs' xs
 | [],vs',xs,hS,h,hr,hm,hI=>by
  simp[fV]at h;subst h;exact⟨hr.1,fun i c x hc=>by simp at hc⟩
 | v::vs,vs',xs,hS,h,hr,hm,hI=>by
  simp only[fV]at h;split at h<;>simp at h;subst h;rename_i y s h1 h2
  match xs,hr with
  | [],hr=>exact absurd hr.1 (by simp)
  | x::xs,hr =>
   have r1:=KC hS h1 (hr.2 0 v x rfl rfl) hm (fun p hp=>hI p (by simp[hp]));have r2:=gD (xs:=xs) hS h2 ⟨by simpa using hr.1,fun i c x hc hx=>hr.2 (i+1) c x (by simpa using hc) (by simpa using hx)⟩ hm (fun p hp=>hI p (by
    simp only[Xc2,Qw2];exact .inr hp))
   refine⟨by simp[r2.1],fun i c z hc hz => ?_⟩;cases i with
   | zero=>simp at hc hz;subst hc;subst hz;exact r1
   | succ i=>exact r2.2 i c z (by simpa using hc) (by simpa using hz)
theorem DY.DZ {rs:List Ref}(hS:aH σ st.base.length β I Wr wd (st.base++st.loc) w)(hf:DY σ β I I' Wr wd st st' w rs):RowsIn β I' st rs:=by
 intro p hp az sz es b bo cap hrow hβ;rw[St.eZ]at hrow;rcases hrow with hrow|hrow
 ·have h2:=hf.all p hp az sz es hrow;exact(hf.pW.gT _ _ _ _ _ _ _ h2 hβ).2
 ·exact hf.im _ (hS.gT _ _ _ _ _ _ _ hrow hβ).2
end leave
def dJ (E:Env)(σ:Nat->Option FuncId)(I:Nat->Prop)(w:World):Prop :=
 ∀ k y,E.d9 k=some y->I k/\(∀ c ∈ y.cells,c.one=true)/\AtD σ I w k 0 y.cells/\∃ c e fr,w.heap[k]?=some (.cells c e fr)/\c.size=y.cells.length
theorem dJ.mono {E:Env}{σ:Nat->Option FuncId}{I I':Nat->Prop}{w w':World}(h:dJ E σ I w)(hi:∀ b,I b->I' b)(hk:∀ b,I b->w'.heap[b]?=w.heap[b]?):dJ E σ I' w':=fun k y hy=>by
 obtain⟨h1,h2,h3,c,e,fr,h4,h5⟩:=h k y hy;exact⟨hi _ h1,h2,h3.mono hi hk (hk _ h1),c,e,fr,by rw[hk _ h1];exact h4,h5⟩
structure Grow (mn:Prop)(I I':Nat->Prop)(w w':World):Prop where
 im:∀ b,I b->I' b
 gZ:∀ b,I' b->I b\/w.heap.size<=b
 lH:∀ b,I' b->b<w'.heap.size
 size:w.heap.size<=w'.heap.size
 keep:∀ b,b<w.heap.size->w'.heap[b]?=w.heap[b]?
 os:w'.os=w.os
 tape:w'.tape=w.tape
 output:w'.output=w.output
 drawn:mn->w.drawn<=w'.drawn
def iJ (P:Program)(E:Env)(σ:Nat->Option FuncId)(g:Nat)(args:List FV)(B:List ae):FV × Option (List ae)->Prop
 | (v,none)=>∀ f,σ g=some f->∀ β I w (bg:Array Value),aH σ B.length β I (fun b=>w.heap.size<=b) (fun k=>B.length<=k) B w->gy σ β I w B.length args bg.toList->dJ E σ I w ->
   Calls P f bg w fun e w'=>∃ x y I',e=.returned x/\v=.d y/\bB σ I' w' y x/\Grow E.mn I I' w w'
 | (v,some B')=>∀ f,σ g=some f->∀ β I Wr w (bg:Array Value),aH σ B.length β I Wr (fun _=>True) B w->gy σ β I w B.length args bg.toList->dJ E σ I w ->
   Calls P f bg w fun e w'=>∃ x β' I',e=.returned x/\Ext E.mn β β' I I' Wr w w'/\(∀ n' wd',aH σ n' β' I' Wr wd' B' w')/\∀ n',aI σ β' I' w' n' v x
def Given (E:Env)(g:Nat):Prop:=(E.fn g).isSome=true\/(E.ja g).isSome=true\/(E.iF g).isSome=true
def jT (P:Program)(E:Env)(σ:Nat->Option FuncId)(rec:Nat->List FV->List ae->bG):Prop:=∀ g args B r,rec g args B=some r->Given E g/\iJ P E σ g args B r
section call
variable {P:Program} {E:Env} {σ:Nat->Option FuncId} {β:Map} {I Wr:Nat->Prop} {wd:Nat->Prop} {w:World} {st st':St} {rec:Nat->List FV->List ae->bG} {draw:Bool} {v:FV}
theorem Grow.ext {I':Nat->Prop}{w':World}(h:Grow mn I I' w w')(hw:∀ b,w.heap.size<=b->Wr b)(hi:∀ b,I b->b<w.heap.size)(β:Map):Ext mn β β I I' Wr w w' :=
 ⟨fun _ _ _ h=>h,h.im,fun b hb=>(h.gZ b hb).imp id (hw b),h.size,fun b hb=>h.keep b (hi b hb),fun b hb _=>h.keep b hb,h.os,h.tape,h.output,h.drawn⟩
theorem NB {y:D}{x:Value}(h:scalar (.d y)=true){I0:Nat->Prop}{w0:World}(hr:bB σ I0 w0 y x)(I1:Nat->Prop)(w1:World):bB σ I1 w1 y x:=by
 cases y with
 | v z=>cases hr;exact .v _
 | t vs =>
  cases hr with
  | t hl hr =>
   refine .t hl (fun i c x hc hx => ?_);have hc':c.isV=true:=Qf2.1 h c (Qa2 hc);have:=hr i c x hc hx;cases c with
   | v z=>cases this;exact .v _
   | _=>simp[D.isV]at hc'
 | _=>simp[scalar]at h
theorem D5 {rows:List Ref}{I1 I2:Nat->Prop}{w':World}{y:D}{x:Value}(hS:aH σ st.base.length β I Wr wd (st.base++st.loc) w)(hf:DY σ β I I1 Wr wd st (aK st rows) w rows)
  (hdt:draw=false->jf st.base.length st' wd) (hr:bB σ I2 w' y x) (hg:Grow mn I1 I2 w w')
  (h:(if scalar (.d y)\/rows=[] then some (FV.d y,st) else if draw then none else some (.d y,aK st rows))=some (v,st')):Post mn σ st.base.length (st.base++st.loc).length β I Wr wd w st' v x w':=by
 split at h
 ·rename_i hsc;cases h;rcases hsc with hsc|hrows
  ·refine⟨β,I,⟨fun _ _ _ h=>h,fun _ h=>h,fun _ h=>.inl h,hg.size,fun b hb=>hg.keep b (hS.lH b hb),fun b hb _=>hg.keep b hb,hg.os,hg.tape,hg.output,hg.drawn⟩,hS.grow hg.size hg.keep,.d (NB hsc hr _ _),fun _ _ _ _=>rfl⟩
  ·subst hrows
   -- nothing has been frozen
   have hI1:∀ b,I1 b->I b\/∃ (k:Nat) (o:ae) (bo cap:Nat),(st.base++st.loc)[k]?=some o/\o.live β k=some (b,bo,cap):=fun b hb=>(hf.gZ b hb).imp id (fun⟨k,o,bo,cap,h1,h2,_⟩=>⟨k,o,bo,cap,h1,h2⟩)
   have hnot:∀ b,I1 b->I b:=by
    intro b hb;rcases hI1 b hb with h|⟨k,o,bo,cap,h1,h2⟩
    ·exact h
    ·exact absurd hb ((hf.pW.wr k o b bo cap (by simpa[aK] using h1) h2).2)
   refine⟨β,I2,⟨fun _ _ _ h=>h,fun b hb=>hg.im b (hf.im b hb),fun b hb => ?_,hg.size,fun b hb=>hg.keep b (hS.lH b hb),fun b hb _=>hg.keep b hb,hg.os,hg.tape,hg.output,hg.drawn⟩,?_,.d hr,fun _ _ _ _=>rfl⟩
   ·rcases hg.gZ b hb with h|h
    ·exact .inl (hnot b h)
    ·exact .inr (hS.jX b h)
   ·refine(hS.grow hg.size hg.keep).adG (fun b hb=>hg.im b (hf.im b hb)) hg.lH (fun k o b bo cap h1 h2 hI2 => ?_);rcases hg.gZ b hI2 with h|h
    ·exact(hS.wr k o b bo cap h1 h2).2 (hnot b h)
    ·have:=jR hS h2;omega
 ·split at h
  ·cases h
  ·rename_i hdr;have hdr:draw=false:=by simpa using hdr
   cases h;refine⟨β,I2,⟨fun _ _ _ h=>h,fun b hb=>hg.im b (hf.im b hb),fun b hb => ?_,hg.size,fun b hb=>hg.keep b (hS.lH b hb),fun b hb _=>hg.keep b hb,hg.os,hg.tape,hg.output,hg.drawn⟩,?_,.d hr,fun _ _ _ _=>rfl⟩
   ·rcases hg.gZ b hb with h|h
    ·rcases hf.gZ b h with h|⟨k,o,bo,cap,h1,h2,h3⟩
     ·exact .inl h
     ·exact .inr ((hS.wr k o b bo cap h1 h2).1 (h3.elim (fun hd=>(hdt hdr).2 hd k) ((hdt hdr).1 k)))
    ·exact .inr (hS.jX b h)
   ·refine(hf.pW.grow hg.size hg.keep).adG hg.im hg.lH (fun k o b bo cap h1 h2 hI2 => ?_);rcases hg.gZ b hI2 with h|h
    ·exact(hf.pW.wr k o b bo cap h1 h2).2 h
    ·have:=jR hf.pW h2;omega
end call
end
section
variable {mn:Prop}
section pW
variable {σ:Nat->Option FuncId} {β:Map} {I Wr:Nat->Prop} {wd:Nat->Prop} {w:World} {n:Nat} {H:List ae}
theorem ae.vV (o:ae)(β:Map)(k:Nat):(o.aA n).live β k=o.live β k:=by cases o<;>rfl
theorem ae.FY {o:ae}{az sz:Nat}{es:List D}(h:o.aA n=.row az sz es):o=.row az sz es:=by cases o<;>simp_all[ae.aA]
theorem ae.Ry {o:ae}{az sz:Nat}{es:List D}(h:o.aA n=.gT az sz es):o=.gT az sz es:=by cases o<;>simp_all[ae.aA]
theorem ae.Rz {o:ae}{es:List (D × D)}(h:o.aA n=.map es):o=.map es:=by cases o<;>simp_all[ae.aA]
theorem ae.RA {o:ae}{es:List (D × D)}(h:o.shift n=.map es):o=.map es:=by cases o<;>simp_all[ae.shift]
theorem ae.RB {o:ae}{cs:List FV}(h:o.aA n=.box cs):∃ cs',o=.box cs'/\cs=cs'.map (FV.aA n):=by
 cases o<;>simp_all[ae.aA,eO]
theorem ae.mY (o:ae)(β:Map)(k:Nat):(o.shift n).live β k=o.live β k:=by cases o<;>rfl
theorem ae.FZ {o:ae}{az sz:Nat}{es:List D}(h:o.shift n=.row az sz es):o=.row az sz es:=by cases o<;>simp_all[ae.shift]
theorem ae.RD {o:ae}{az sz:Nat}{es:List D}(h:o.shift n=.gT az sz es):o=.gT az sz es:=by cases o<;>simp_all[ae.shift]
theorem ae.RF {o:ae}{cs:List FV}(h:o.shift n=.box cs):∃ cs',o=.box cs'/\cs=cs'.map (FV.shift n):=by
 cases o<;>simp_all[ae.shift,oJ]
theorem aH.old (h:aH σ n β I Wr wd H w){n':Nat}{Wr':Nat->Prop}{wd':Nat->Prop}(hnew:∀ b,w.heap.size<=b->Wr' b)
  (hw:∀ (k:Nat) (o:ae) b bo cap,H[k]?=some o->o.live β k=some (b,bo,cap)->wd' k->Wr' b):aH σ n' β I Wr' wd' (H.map (ae.aA n)) w:=by
 have hget:∀ (k:Nat) (o:ae),(H.map (ae.aA n))[k]?=some o->∃ o',H[k]?=some o'/\o'.aA n=o:=by
  intro k o hk;simpa[Qb1,Qf1] using hk
 refine⟨h.lH,h.blt,hnew,fun k v x hx=>by rw[Qk2];exact h.dom k v x hx,?_,?_,?_,?_,?_,?_,?_⟩
 ·intro k az sz es v x h1 h2;obtain⟨o',h3,h4⟩:=hget k _ h1;have:=ae.FY h4;subst this;exact h.mh _ _ _ _ _ _ h3 h2
 ·intro k o b bo cap h1 h2;obtain⟨o',h3,rfl⟩:=hget k _ h1;rw[ae.vV]at h2;exact⟨hw k o' b bo cap h3 h2,(h.wr k o' b bo cap h3 h2).2⟩
 ·intro k cs b bo cap h1 h2;obtain⟨o',h3,h4⟩:=hget k _ h1;obtain⟨cs',rfl,rfl⟩:=ae.RB h4;obtain⟨a0,c,e',a1,a2,a3⟩:=h.box k cs' b bo cap h3 h2;refine⟨a0,c,e',a1,by simpa using a2,fun j f x e1 e2 => ?_⟩;simp only[Qb1,Qf1]at e1;obtain⟨f',e3,rfl⟩:=e1;exact(a3 j f' x e3 e2).aA n'
 ·intro k az sz es b bo cap h1 h2;obtain⟨o',h3,h4⟩:=hget k _ h1;have:=ae.FY h4;subst this;exact h.row _ _ _ _ _ _ _ h3 h2
 ·intro k az sz es b bo cap h1 h2;obtain⟨o',h3,h4⟩:=hget k _ h1;have:=ae.Ry h4;subst this;exact h.gT _ _ _ _ _ _ _ h3 h2
 ·intro k k' o1 o2 b bo cap vQ cap' h1 h2 h3 h4;obtain⟨ZA,h5,rfl⟩:=hget k _ h1;obtain⟨ZB,h6,rfl⟩:=hget k' _ h2;rw[ae.vV]at h3 h4;exact h.inj k k' ZA ZB b bo cap vQ cap' h5 h6 h3 h4
 ·intro k es b bo cap h1 h2;obtain⟨o',h3,h4⟩:=hget k _ h1;have:=ae.Rz h4;subst this;exact h.map _ _ _ _ _ h3 h2
theorem aH.empty (n:Nat){Wr:Nat->Prop}{wd:Nat->Prop}(hi:∀ b,I b->b<w.heap.size)(hw:∀ b,w.heap.size<=b->Wr b):aH σ n (fun _ _=>none) I Wr wd [] w:=by
 constructor
 ·exact hi
 ·intro _ _ _ _ _ h;cases h
 ·exact hw
 ·intro _ _ _ h;cases h
 all_goals intros;simp at*
def Map.join (β β':Map)(m:Nat):Map:=fun k v=>if k<m then β k v else β' (k-m) v
theorem Map.mD {β β':Map}{m k v:Nat}(h:k<m):Map.join β β' m k v=β k v:=by simp[Map.join,h]
theorem Map.mE {β β':Map}{m k v:Nat}(h:m<=k):Map.join β β' m k v=β' (k-m) v:=by simp[Map.join,Nat.not_lt.2 h]
theorem aH.merge {β':Map}{I':Nat->Prop}{w':World}{B:List ae}(h:aH σ n β I Wr wd H w)(hn:n<=H.length)(k:aH σ 0 β' I' (fun b=>w.heap.size<=b) (fun _=>True) B w')(hx:Ext mn (fun _ _=>none) β' I I' (fun b=>w.heap.size<=b) w w') :
  Ext mn β (Map.join β β' H.length) I I' Wr w w'/\aH σ n (Map.join β β' H.length) I' Wr wd (H++B.map (ae.shift (H.length-n))) w':=by
 have M6:∀ k v x,β k v=some x->Map.join β β' H.length k v=some x:=fun k v x e=>(Map.mD (h.dom k v x e)).trans e
 have hkeep:∀ b,b<w.heap.size->w'.heap[b]?=w.heap[b]?:=fun b hb=>hx.keepW b hb omK
 have agD:∀ b,I' b->b<w.heap.size->I b:=fun b hb hlt=>(hx.gZ b hb).elim id (fun h=>by omega)
 have hsh:∀ i az y,β' i az=some y->Map.join β β' H.length (n+(H.length-n+i)) az=some y:=by
  intro i az y hy;rw[Map.mE omK,show n+(H.length-n+i)-H.length=i by omega];exact hy
 have hget:∀ (j:Nat) (o:ae),(H++B.map (ae.shift (H.length-n)))[j]?=some o->(j<H.length/\H[j]?=some o)\/(H.length<=j/\∃ o',B[j-H.length]?=some o'/\o'.shift (H.length-n)=o):=by
  intro j o hj;rcases Qg1 j H.length with hl|hl
  ·rw[Qa1 hl]at hj;exact .inl ⟨hl,hj⟩
  ·rw[Qc1 hl,Qb1,Qf1]at hj;exact .inr ⟨hl,hj⟩
 have hlive:∀ (j:Nat) (o:ae),j<H.length->o.live (Map.join β β' H.length) j=o.live β j:=fun j o hj=>by cases o<;>simp[ae.live,Map.mD hj]
 have mZ:∀ (j:Nat) (o:ae),H.length<=j->o.live (Map.join β β' H.length) j=o.live β' (j-H.length):=fun j o hj=>by cases o<;>simp[ae.live,Map.mE hj]
 refine⟨⟨M6,hx.im,fun b hb=>(hx.gZ b hb).imp id (h.jX b),hx.size,hx.eU,fun b hb _=>hkeep b hb,hx.os,hx.tape,hx.output,hx.drawn⟩,?_⟩;refine⟨k.lH,?_,fun b hb=>h.jX b (Qc2 hx.size hb),?_,?_,?_,?_,?_,?_,?_,?_⟩
 ·intro j v b bo cap hb;unfold Map.join at hb;split at hb
  ·exact Qk0 (h.blt _ _ _ _ _ hb) hx.size
  ·exact k.blt _ _ _ _ _ hb
 ·intro j v x hb;rw[Qb0,Qk2];unfold Map.join at hb;split at hb
  ·omega
  ·have:=k.dom _ _ _ hb;omega
 ·intro j az sz es v x h1 h2;rcases hget j _ h1 with ⟨hl,h3⟩|⟨hl,o',h3,h4⟩
  ·rw[Map.mD hl]at h2;exact h.mh _ _ _ _ _ _ h3 h2
  ·have:=ae.FZ h4;subst this;rw[Map.mE hl]at h2;exact k.mh _ _ _ _ _ _ h3 h2
 ·intro j o b bo cap h1 h2;rcases hget j _ h1 with ⟨hl,h3⟩|⟨hl,o',h3,rfl⟩
  ·rw[hlive _ _ hl]at h2;obtain⟨a1,a2⟩:=h.wr _ _ _ _ _ h3 h2;exact⟨a1,fun hb=>a2 (agD b hb (jR h h2))⟩
  ·rw[ae.mY,mZ _ _ hl]at h2;obtain⟨a1,a2⟩:=k.wr _ _ _ _ _ h3 h2;exact⟨fun _=>h.jX b (a1 trivial),a2⟩
 ·intro j cs b bo cap h1 h2;rcases hget j _ h1 with ⟨hl,h3⟩|⟨hl,o',h3,h4⟩
  ·rw[Map.mD hl]at h2;obtain⟨a0,c,e',a1,a2,a3⟩:=h.box _ _ _ _ _ h3 h2;exact⟨a0,c,e',by rw[hkeep b (h.blt _ _ _ _ _ h2)];exact a1,a2,fun i f x e1 e2=>(a3 i f x e1 e2).mono M6 hx.im hx.eU⟩
  ·obtain⟨cs',rfl,rfl⟩:=ae.RF h4;rw[Map.mE hl]at h2;obtain⟨a0,c,e',a1,a2,a3⟩:=k.box _ _ _ _ _ h3 h2;refine⟨a0,c,e',a1,by simpa using a2,fun i f x e1 e2 => ?_⟩;simp only[Qb1,Qf1]at e1;obtain⟨f',e3,rfl⟩:=e1;exact(a3 i f' x e3 e2).shift hsh
 ·intro j az sz es b bo cap h1 h2;rcases hget j _ h1 with ⟨hl,h3⟩|⟨hl,o',h3,h4⟩
  ·rw[Map.mD hl]at h2;obtain⟨a0,c,e',a1,a2⟩:=h.row _ _ _ _ _ _ _ h3 h2;have hb:=hkeep b (h.blt _ _ _ _ _ h2);exact⟨a0.mono hx.im hx.eU hb,c,e',by rw[hb];exact a1,a2⟩
  ·have:=ae.FZ h4;subst this;rw[Map.mE hl]at h2;exact k.row _ _ _ _ _ _ _ h3 h2
 ·intro j az sz es b bo cap h1 h2;rcases hget j _ h1 with ⟨hl,h3⟩|⟨hl,o',h3,h4⟩
  ·rw[Map.mD hl]at h2;obtain⟨a0,a1⟩:=h.gT _ _ _ _ _ _ _ h3 h2;exact⟨a0.mono hx.im hx.eU (hx.eU b a1),hx.im b a1⟩
  ·have:=ae.RD h4;subst this;rw[Map.mE hl]at h2;exact k.gT _ _ _ _ _ _ _ h3 h2
 ·intro j j' o1 o2 b bo cap vQ cap' h1 h2 h3 h4;rcases hget j _ h1 with ⟨hl,h5⟩|⟨hl,ZA,h5,rfl⟩<;>rcases hget j' _ h2 with ⟨hl',h6⟩|⟨hl',ZB,h6,rfl⟩
  ·rw[hlive _ _ hl]at h3;rw[hlive _ _ hl']at h4;exact h.inj _ _ _ _ _ _ _ _ _ h5 h6 h3 h4
  ·rw[hlive _ _ hl]at h3;rw[ae.mY,mZ _ _ hl']at h4;have h7:=jR h h3;have h8:w.heap.size<=b:=(k.wr _ _ _ _ _ h6 h4).1 trivial;omega
  ·rw[ae.mY,mZ _ _ hl]at h3;rw[hlive _ _ hl']at h4;have h7:=jR h h4;have h8:w.heap.size<=b:=(k.wr _ _ _ _ _ h5 h3).1 trivial;omega
  ·rw[ae.mY,mZ _ _ hl]at h3;rw[ae.mY,mZ _ _ hl']at h4;have:=k.inj _ _ _ _ _ _ _ _ _ h5 h6 h3 h4;omega
 ·intro j es b bo cap h1 h2;rcases hget j _ h1 with ⟨hl,h3⟩|⟨hl,o',h3,h4⟩
  ·rw[Map.mD hl]at h2;obtain⟨ms,clock,a1,a2⟩:=h.map _ _ _ _ _ h3 h2;exact⟨ms,clock,by rw[hkeep b (h.blt _ _ _ _ _ h2)];exact a1,a2.mono hx.im hx.eU⟩
  ·have:=ae.RA h4;subst this;rw[Map.mE hl]at h2;exact k.map _ _ _ _ _ h3 h2
end pW
section call
variable {P:Program} {E:Env} {σ:Nat->Option FuncId} {β:Map} {I Wr:Nat->Prop} {wd:Nat->Prop} {w:World} {st st':St} {rec:Nat->List FV->List ae->bG} {draw:Bool} {v:FV}
theorem xx {xs:List FV}{ds:List D}(h:jV xs=some ds){n:Nat}{vs:List Value}(hr:gy σ β I w n xs vs)(β':Map)(n':Nat):gy σ β' I w n' xs vs:=by
 refine⟨hr.1,fun i c x hc hx => ?_⟩;have:=hr.2 i c x hc hx;have hd:∀ (xs:List FV) (ds:List D),jV xs=some ds->∀ c ∈ xs,∃ y,c=.d y:=by
  intro xs
  induction xs with
  | nil=>intro _ _ c hc;simp at hc
  | cons z zs ih =>
   intro ds h c hc;cases z<;>simp only[jV]at h<;>try (cases h;done)
   split at h<;>simp at h;rcases Qi1.1 hc with rfl|hc
   ·exact⟨_,rfl⟩
   ·exact ih _ (by assumption) c hc
 obtain⟨y,rfl⟩:=hd xs ds h c (Qa2 hc);cases this with|d h=>exact .d h
theorem D6 {g:Nat}{args xs:List FV}{f:FuncId}{bg:Array Value}(hrec:jT P E σ rec)(hS:aH σ st.base.length β I Wr wd (st.base++st.loc) w)(hG:dJ E σ I w)(hσ:σ g=some f)
  (hA:gy σ β I w st.base.length args bg.toList) (hl:fV st args=some xs) (hd:(jV xs).isSome=true) (h:dY rec draw st g xs (args.flatMap FV.rows)=some (v,st')) (hdt:draw=false->jf st.base.length st' wd) :
  Calls P f bg w fun e w'=>∃ x,e=.returned x/\Post E.mn σ st.base.length (st.base++st.loc).length β I Wr wd w st' v x w':=by
 obtain⟨ds,hds⟩:=Q50.1 hd;unfold dY at h;split at h
 ·rename_i y hcall;obtain⟨I1,hf⟩:=iO (args.flatMap FV.rows) hS;have hx:=gD hS hl hA hf.im (hf.DZ hS);have:=(hrec _ _ _ _ hcall).2 f hσ (fun _ _=>none) I1 w bg (.empty _ hf.pW.lH (fun _ h=>h)) (xx hds hx _ _) (hG.mono hf.im (fun _ _=>rfl));refine this.mono fun e w' ⟨x,y',I2,he,hy,hrx,hg⟩=>⟨x,he,?_⟩
  subst hy;exact D5 hS hf hdt hrx hg h
 ·rename_i y B hcall;split at h
  ·rename_i hrows;cases h;have hx:=gD (I':=I) hS hl hA (fun _ h=>h) (by rw[hrows];intro p hp;simp at hp);have:=(hrec _ _ _ _ hcall).2 f hσ (fun _ _=>none) I (fun b=>w.heap.size<=b) w bg (.empty _ hS.lH (fun _ h=>h)) (xx hds hx _ _) hG;refine this.mono fun e w' ⟨x,β',I',he,hxt,hsm,hrx⟩=>⟨x,he,?_⟩
   have hlen:(st.base++st.loc).length-st.base.length=st.loc.length:=by simp
   obtain⟨m1,m2⟩:=hS.merge (by simp) (hsm 0 (fun _=>True)) hxt;refine⟨_,I',m1,?_,(hrx 0).shift ?_,fun k u hk _=>Map.mD hk⟩
   ·rw[hlen,Qo1]at m2;exact m2
   ·intro i az z hz;rw[Map.mE (by rw[Qb0];omega),show st.base.length+(st.loc.length+i)-(st.base++st.loc).length=i by rw[Qb0];omega];exact hz
  ·split at h
   ·cases h
   ·rename_i hdr;have hdr:draw=false:=by simpa using hdr
    cases h;obtain⟨I1,hf⟩:=iO (args.flatMap FV.rows) hS;have hx:=gD hS hl hA hf.im (hf.DZ hS);have:=(hrec _ _ _ _ hcall).2 f hσ (fun _ _=>none) I1 (fun b=>w.heap.size<=b) w bg (.empty _ hf.pW.lH (fun _ h=>h)) (xx hds hx _ _) (hG.mono hf.im (fun _ _=>rfl));refine this.mono fun e w' ⟨x,β',I',he,hxt,hsm,hrx⟩=>⟨x,he,?_⟩
    have hl1:((aK st (args.flatMap FV.rows)).base++(aK st (args.flatMap FV.rows)).loc).length=(st.base++st.loc).length:=by
     rw[Qb0,Qb0,hf.base,hf.len]
    have hlen:(st.base++st.loc).length-st.base.length=st.loc.length:=by simp
    obtain⟨m1,m2⟩:=hf.pW.merge (by rw[hl1];simp) (hsm 0 (fun _=>True)) hxt;rw[hl1]at m1 m2;refine⟨_,I',⟨m1.bm,fun b hb=>m1.im b (hf.im b hb),fun b hb => ?_,m1.size,fun b hb=>m1.eU b (hf.im b hb),m1.keepW,m1.os,m1.tape,m1.output,m1.drawn⟩,?_,(hrx 0).shift ?_,fun k u hk _=>Map.mD hk⟩
    ·rcases m1.gZ b hb with h|h
     ·rcases hf.gZ b h with h|⟨k,o,bo,cap,h1,h2,h3⟩
      ·exact .inl h
      ·exact .inr ((hS.wr k o b bo cap h1 h2).1 (h3.elim (fun hd=>(hdt hdr).2 hd k) ((hdt hdr).1 k)))
     ·exact .inr h
    ·rw[hlen,Qo1]at m2;exact m2
    ·intro i az z hz;rw[Map.mE (by rw[Qb0];omega),show st.base.length+(st.loc.length+i)-(st.base++st.loc).length=i by rw[Qb0];omega];exact hz
 ·cases h
theorem aI.Bb {β:Map}{I:Nat->Prop}{w:World}{n:Nat}{v:FV}{x:Value}(h:aI σ β I w n v x):aI σ β I w n (Bb n v) x:=by
 unfold Fi.Bb;split
 ·split
  ·rename_i hi;cases h with
   | ls h1 h2 h3=>exact .ls (p:=.loc _) (by simp only[Ref.abs]at h1 ⊢;rw[show n+(_-n)=_ from Nat.add_sub_cancel' hi];exact h1) h2 h3
  ·exact h
 ·exact h
theorem uU {g:Nat}{rows:List Ref}{xs:List FV}{f:FuncId}{bg:Array Value}(hrl:eF rec)(hrec:jT P E σ rec)(hS:aH σ st.base.length β I Wr wd (st.base++st.loc) w)(hG:dJ E σ I w)(hσ:σ g=some f)
  {I1:Nat->Prop} (hf:DY σ β I I1 Wr wd st (aK st rows) w rows) (hx:gy σ β I1 w st.base.length xs bg.toList) (h:dn rec draw st g xs rows=some (v,st')) (hdt:draw=false->jf st.base.length st' wd) :
  Calls P f bg w fun e w'=>∃ x,e=.returned x/\Post E.mn σ st.base.length (st.base++st.loc).length β I Wr wd w st' v x w':=by
 have hx':∀ n',gy σ β I1 w n' (FV.aR st.base.length xs) bg.toList:=by
  intro n';rw[eO];refine⟨by simpa using hx.1,fun i c x hc hy => ?_⟩;simp only[Qb1,Qf1]at hc;obtain⟨d,hd,rfl⟩:=hc;exact(hx.2 i d x hd hy).aA n'
 have hlen:(((aK st rows).base++(aK st rows).loc).map (ae.aA st.base.length)).length=st.base.length+st.loc.length:=by
  simp[hf.base,hf.len]
 unfold dn at h;split at h
 ·rename_i y hcall;have hold:=hf.pW.old (n':=(((aK st rows).base++(aK st rows).loc).map (ae.aA st.base.length)).length) (Wr':=fun b=>w.heap.size<=b) (wd':=fun k=>(((aK st rows).base++(aK st rows).loc).map (ae.aA st.base.length)).length<=k) (fun _ h=>h)
   (fun k o b bo cap h1 _ h2=>by
    have:=(bD h1)
    simp only[Qk2]at h2;omega)
  have:=(hrec _ _ _ _ hcall).2 f hσ β I1 w bg hold (hx' _) (hG.mono hf.im (fun _ _=>rfl));refine this.mono fun e w' ⟨x,y',I2,he,hy,hrx,hg⟩=>⟨x,he,?_⟩
  subst hy;exact D5 hS hf hdt hrx hg h
 ·rename_i y B hcall;split at h
  ·cases h
  ·rename_i hdr;cases h;have hmw:=hdt (by simpa using hdr);have hwd:∀ k,wd k:=by
    intro k;rcases Qt0 st.base.length with h0|h0
    ·exact hmw.1 k omK
    ·exact hmw.2 (by simp[h0]) k
   have hWr:∀ (k:Nat) (o:ae) b bo cap,((aK st rows).base++(aK st rows).loc)[k]?=some o->o.live β k=some (b,bo,cap)->Wr b:=fun k o b bo cap h1 h2=>(hf.pW.wr k o b bo cap h1 h2).1 (hwd k)
   have hold:=hf.pW.old (n':=(((aK st rows).base++(aK st rows).loc).map (ae.aA st.base.length)).length) (Wr':=Wr) (wd':=fun _=>True) hS.jX
    (fun k o b bo cap h1 h2 _=>hWr k o b bo cap h1 h2)
   have:=(hrec _ _ _ _ hcall).2 f hσ β I1 Wr w bg hold (hx' _) (hG.mono hf.im (fun _ _=>rfl));refine this.mono fun e w' ⟨x,β',I',he,hxt,hsm,hrx⟩=>⟨x,he,β',I',?_,?_,(hrx _).Bb,fun k u _ hn=>(hn (hwd k)).elim⟩
   ·refine⟨hxt.bm,fun b hb=>hxt.im b (hf.im b hb),fun b hb => ?_,hxt.size,fun b hb=>hxt.eU b (hf.im b hb),hxt.keepW,hxt.os,hxt.tape,hxt.output,hxt.drawn⟩;rcases hxt.gZ b hb with h|h
    ·rcases hf.gZ b h with h|⟨k,o,bo,cap,h1,h2,h3⟩
     ·exact .inl h
     ·exact .inr ((hS.wr k o b bo cap h1 h2).1 (hwd k))
    ·exact .inr h
   ·have hBl:=hrl _ _ _ _ _ hcall;rw[hlen]at hBl;simp only[Xe0];exact hsm _ _
 ·cases h
theorem D7 {g:Nat}{args xs:List FV}{f:FuncId}{bg:Array Value}(hrl:eF rec)(hrec:jT P E σ rec)(hS:aH σ st.base.length β I Wr wd (st.base++st.loc) w)(hG:dJ E σ I w)(hσ:σ g=some f)
  (hA:gy σ β I w st.base.length args bg.toList) (hl:fV st args=some xs) (h:dn rec draw st g xs (args.flatMap FV.rows)=some (v,st')) (hdt:draw=false->jf st.base.length st' wd) :
  Calls P f bg w fun e w'=>∃ x,e=.returned x/\Post E.mn σ st.base.length (st.base++st.loc).length β I Wr wd w st' v x w':=by
 obtain⟨I1,hf⟩:=iO (args.flatMap FV.rows) hS;exact uU hrl hrec hS hG hσ hf (gD hS hl hA hf.im (hf.DZ hS)) h hdt
theorem EC {g:Nat}{args:List FV}{f:FuncId}{bg:Array Value}(hrl:eF rec)(hrec:jT P E σ rec)(hS:aH σ st.base.length β I Wr wd (st.base++st.loc) w)(hG:dJ E σ I w)(hσ:σ g=some f)
  (hA:gy σ β I w st.base.length args bg.toList) (h:dn rec draw st g args []=some (v,st')) (hdt:draw=false->jf st.base.length st' wd) :
  Calls P f bg w fun e w'=>∃ x,e=.returned x/\Post E.mn σ st.base.length (st.base++st.loc).length β I Wr wd w st' v x w':=by
 obtain⟨I1,hf⟩:=iO [] hS;exact uU hrl hrec hS hG hσ hf ⟨hA.1,fun i c x h1 h2=>(hA.2 i c x h1 h2).mono (fun _ _ _ h=>h) hf.im (fun _ _=>rfl)⟩ h hdt
theorem D8 {g:Nat}{args:List FV}{rows:List Ref}(hrec:jT P E σ rec)(h:dn rec draw st g args rows=some (v,st')):Given E g:=by
 unfold dn at h;split at h
 ·rename_i hc;exact(hrec _ _ _ _ hc).1
 ·rename_i hc;exact(hrec _ _ _ _ hc).1
 ·cases h
theorem qA {g:Nat}{args:List FV}(hrec:jT P E σ rec)(h:fU rec draw st g args=some (v,st')):Given E g:=by
 unfold fU at h;split at h
 ·cases h
 ·split at h
  ·unfold dY at h;split at h
   ·rename_i hc;exact(hrec _ _ _ _ hc).1
   ·rename_i hc;exact(hrec _ _ _ _ hc).1
   ·cases h
  ·unfold dn at h;split at h
   ·rename_i hc;exact(hrec _ _ _ _ hc).1
   ·rename_i hc;exact(hrec _ _ _ _ hc).1
   ·cases h
theorem qB {g:Nat}{args:List FV}{f:FuncId}{bg:Array Value}(hrl:eF rec)(hrec:jT P E σ rec)(hS:aH σ st.base.length β I Wr wd (st.base++st.loc) w)(hG:dJ E σ I w)(hσ:σ g=some f)
  (hA:gy σ β I w st.base.length args bg.toList) (h:fU rec draw st g args=some (v,st')) (hdt:draw=false->jf st.base.length st' wd) :
  Calls P f bg w fun e w'=>∃ x,e=.returned x/\Post E.mn σ st.base.length (st.base++st.loc).length β I Wr wd w st' v x w':=by
 unfold fU at h;split at h
 ·cases h
 ·rename_i xs hl;split at h
  ·rename_i hd;exact D6 hrec hS hG hσ hA hl hd h hdt
  ·exact D7 hrl hrec hS hG hσ hA hl h hdt
end call
end
section
theorem gy.append {σ:Nat->Option FuncId}{β:Map}{I:Nat->Prop}{w:World}{n:Nat}{a b:List FV}{xs ys:List Value}(h:gy σ β I w n a xs)(k:gy σ β I w n b ys):gy σ β I w n (a++b) (xs++ys):=by
 refine⟨by rw[Qb0,Qb0,h.1,k.1],fun i c x hc hx => ?_⟩;rcases Qg1 i a.length with hl|hl
 ·rw[Qa1 hl]at hc;rw[Qa1 (by rw[h.1];exact hl)]at hx;exact h.2 i c x hc hx
 ·rw[Qc1 hl]at hc;rw[Qc1 (by rw[h.1];exact hl),h.1]at hx;exact k.2 _ c x hc hx
section step
variable {P:Program} {E:Env} {cx:Cx} {σ:Nat->Option FuncId} {β:Map} {I Wr:Nat->Prop} {wd:Nat->Prop} {w:World} {st st':St} {env:List FV} {aL:List (Option Tmp)} {ρ:Operand->Value}
variable {rec:Nat->List FV->List ae->bG} {draw:Bool} {k:K} {v:FV} {o:Oper}
def Bodies (P : Program) (E : Env) (σ : Nat → Option FuncId) : Prop := ∀ g f, Given E g → σ g = some f → ∃ fn c, P.funcs[f]? = some fn ∧ fn.body = some c ∧ (fn.name == "runtime.NumGoroutine") = false
theorem HZ {f : FuncId} {fn : Func} {c : Code} {args : Array Value} (h1 : P.funcs[f]? = some fn) (h2 : fn.body = some c) (h3 : (fn.name == "runtime.NumGoroutine") = false) (w : World) :
  (callFunc f args).run P w=.ok (.enter f args) w:=by
 unfold callFunc;have h4 : ¬ fn.name = "runtime.NumGoroutine" := by simpa using h3
 simp[h1,h2,h4]
theorem H5 {c:Call}{x:Operand}{f:FuncId}{first captured:Array Value}(ho:o.op=.call c)(hcl:c.callee=.value x)(hx:ρ x=.func (.func f) first captured){fn:Func}{b:Code}
  (h1 : P.funcs[f]? = some fn) (h2 : fn.body = some b) (h3 : (fn.name == "runtime.NumGoroutine") = false) {Φ : Value → World → Prop}
  (h:Calls P f (first++c.args.map ρ++captured) w fun e w'=>∃ x,e=.returned x/\Φ x w'):Yields P o ρ w Φ:=by
 have he:(execOp ρ o).run P w=.ok (.enter f (first++c.args.map ρ++captured)) w:=by
  simp[execOp,ho,resolve,hcl,hx,Deferred.ofValue,invoke,HZ h1 h2 h3]
 unfold Yields;rw[he];exact h
theorem s_call {c:Call}{x:Operand}(ho:o.op=.call c)(hcl:c.callee=.value x)(uI:∀ f,ρ (.func f)=.func (.func f) #[] #[])(bC:∀ f g,cx.gid f=some g->σ g=some f)(hB:Bodies P E σ)
  (hrl:eF rec) (hrec:jT P E σ rec) (hG:dJ E σ I w)
  (hc:aX P cx aL o=some k) (hk:runK E rec draw st env k=some (v,st')) (hdt:k.loud draw=true->jf st.base.length st' wd) (hS:aH σ st.base.length β I Wr wd (st.base++st.loc) w) (hA:bU P E cx σ β I w st env aL ρ (x::c.args.toList)) :
  Yields P o ρ w (Post E.mn σ st.base.length (st.base++st.loc).length β I Wr wd w st' v):=by
 simp only[aX,ho,hcl]at hc;split at hc
 ·rename_i f hf;cases hf;split at hc<;>simp at hc;subst hc;rename_i g as hg has;cases hr:cx.uQ f with
  | false =>
   simp only[hr,Qi0,if_false]at hk hdt;simp only[runK]at hk;split at hk
   ·rename_i fs hfs;obtain⟨fn,b,h1,h2,h3⟩:=hB g f (qA hrec hk) (bC _ _ hg);refine H5 ho hcl (uI f) h1 h2 h3 ?_;have hL:=jB hA (fun _ h=>Qh0 _ h) has hfs;exact qB hrl hrec hS hG (bC _ _ hg) (by simpa using hL) hk (fun hd=>hdt (by simp[K.loud,hd]))
   ·cases hk
  | true =>
   simp only[hr,if_true]at hk hdt;simp only[runK]at hk;split at hk
   ·rename_i fs hfs;obtain⟨fn,b,h1,h2,h3⟩:=hB g f (D8 hrec hk) (bC _ _ hg);refine H5 ho hcl (uI f) h1 h2 h3 ?_;have hL:=jB hA (fun _ h=>Qh0 _ h) has hfs;exact EC hrl hrec hS hG (bC _ _ hg) (by simpa using hL) hk (fun hd=>hdt (by simp[K.loud,hd]))
   ·cases hk
 ·rename_i x' hne hf;cases hf;split at hc<;>simp at hc;subst hc;rename_i a as ha has;simp only[runK]at hk;split at hk
  ·rename_i g xs hfv hfs;have hr:=hA _ x a _ (by simp) ha hfv;cases hr with
   | d hr =>
    generalize hρ:ρ x=z at hr;cases hr with
    | fn hσ =>
     obtain⟨fn,b,h1,h2,h3⟩:=hB _ _ (qA hrec hk) hσ;refine H5 ho hcl hρ h1 h2 h3 ?_;have hL:=jB hA (fun _ h=>Qh0 _ h) has hfs;exact qB hrl hrec hS hG hσ (by simpa using hL) hk (fun hd=>hdt (by simp[K.loud,hd]))
  ·rename_i g first captured xs hfv hfs
   have hr:=hA _ x a _ (by simp) ha hfv;generalize hρ:ρ x=z at hr;cases hr with
   | @f _ kk _ _ vs us hσ e1 e2 hv hu =>
    obtain⟨fn,b,h1,h2,h3⟩:=hB _ _ (qA hrec hk) hσ;refine H5 ho hcl hρ h1 h2 h3 ?_;have hL:=jB hA (fun _ h=>Qh0 _ h) has hfs;refine qB hrl hrec hS hG hσ ?_ hk (fun hd=>hdt (by simp[K.loud,hd]));simp only[Array.toList_append,Array.toList_map];have r1:gy σ β I w st.base.length first vs.toList:=⟨by simpa using e1,fun i c x h1 h2=>hv i c x h1 (by simpa using h2)⟩
    have r2:gy σ β I w st.base.length captured us.toList:=⟨by simpa using e2,fun i c x h1 h2=>hu i c x h1 (by simpa using h2)⟩
    exact gy.append (gy.append r1 hL) r2
  ·cases hk
 ·simp_all
 ·simp_all
end step
end
section
section step
variable {P:Program} {E:Env} {cx:Cx} {σ:Nat->Option FuncId} {β:Map} {I Wr:Nat->Prop} {wd:Nat->Prop} {w:World} {st st':St} {env:List FV} {aL:List (Option Tmp)} {ρ:Operand->Value}
variable {rec:Nat->List FV->List ae->bG} {draw:Bool} {k:K} {v:FV} {o:Oper}
theorem bU.sub {xs ys:List Operand}(h:bU P E cx σ β I w st env aL ρ xs)(hs:∀ x ∈ ys,x ∈ xs):bU P E cx σ β I w st env aL ρ ys:=fun ty x y f hm=>h ty x y f (hs x hm)
theorem NC (uI:∀ v,ρ (.const v)=v)(hfun:∀ f,ρ (.func f)=.func (.func f) #[] #[])(bC:∀ f g,cx.gid f=some g->σ g=some f)(hB:Bodies P E σ)
  (hrl:eF rec) (hrec:jT P E σ rec) (hG:dJ E σ I w)
  (hc:aX P cx aL o=some k) (hk:runK E rec draw st env k=some (v,st')) (hdt:k.loud draw=true->jf st.base.length st' wd) (hS:aH σ st.base.length β I Wr wd (st.base++st.loc) w) (hA:bU P E cx σ β I w st env aL ρ o.op.operands.toList) :
  Yields P o ρ w (Post E.mn σ st.base.length (st.base++st.loc).length β I Wr wd w st' v):=by
 obtain⟨dst,op,type,pos,after,guard⟩:=o;cases op
 case move x=>exact aa7 (.inl rfl) hc hk hS (hA.sub (by simp[Op.operands]))
 case assign x=>exact aa7 (.inr rfl) hc hk hS (hA.sub (by simp[Op.operands]))
 case pick c a b=>exact adB hc hk hS (hA.sub (by simp[Op.operands]))
 case alloc e=>exact agz bC hc hk hS
 case box e x=>exact agy hc hk hS (hA.sub (by simp[Op.operands]))
 case build t parts=>exact aaj bC hc hk hS (hA.sub (by simp[Op.operands]))
 case buildSlice t len parts=>exact agC bC hc hk hS (hA.sub (by simp[Op.operands]))
 case load t x=>exact adD hc hk hS (hA.sub (by simp[Op.operands]))
 case store t x y=>exact aab hc hk hdt hS (hA.sub (by simp[Op.operands]))
 case fieldAddr s x i=>exact aac hc hk hS (hA.sub (by simp[Op.operands]))
 case field s x i=>exact aad hc hk hS (hA.sub (by simp[Op.operands]))
 case indexAddr t x ix=>exact aae hc hk hS (hA.sub (by simp[Op.operands]))
 case index t x ix=>exact aaf hc hk hS (hA.sub (by simp[Op.operands]))
 case makeSlice t l c=>exact ajd bC hc hk hS (hA.sub (by simp[Op.operands]))
 case slice t x lo hi mx =>
  cases mx with
  | none=>exact aag hc hk hS (hA.sub (by simp[Op.operands]))
  | some m=>simp[aX]at hc
 case extract x i=>exact agA hc hk hS (hA.sub (by simp[Op.operands]))
 case makeFunc fn first captured =>
  cases fn with
  | func f=>exact agB bC hc hk hS (hA.sub (by simp[Op.operands]))
  | _=>simp[aX]at hc
 case binOp op xt x y yt=>exact agx uI hc hk hS (hA.sub (by simp[Op.operands]))
 case unOp op t x=>exact ajc hc hk hS (hA.sub (by simp[Op.operands]))
 case convert src dt x=>exact adC hc hk hS (hA.sub (by simp[Op.operands]))
 case call c =>
  obtain⟨callee,args,uH⟩:=c;cases callee with
  | value x=>exact s_call rfl rfl hfun bC hB hrl hrec hG hc hk hdt hS (hA.sub (by simp[Op.operands,Call.operands]))
  | builtin b=>exact Rw bC hc hk hdt hS (hA.sub (by simp[Op.operands,Call.operands]))
  | invoke r nm=>simp[aX]at hc
 case panic x =>
  simp only[aX,Qe0]at hc;subst hc;simp[runK]at hk
 case makeInterface t x =>
  simp only[aX,Qe0]at hc;subst hc;simp[runK]at hk
 case makeMap t r=>exact aak hc hk hS
 case lookup t x ix ok=>exact adE bC hc hk hS (hA.sub (by simp[Op.operands]))
 case mapUpdate t m ix x=>exact adF hc hk hdt hS (hA.sub (by simp[Op.operands]))
 all_goals simp[aX]at hc
end step
end
end Fi
