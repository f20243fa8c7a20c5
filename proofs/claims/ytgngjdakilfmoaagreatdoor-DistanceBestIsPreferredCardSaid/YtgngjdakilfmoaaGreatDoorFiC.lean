import Derived.Test.YtgngjdakilfmoaaGreatDoorFiB
set_option linter.unusedVariables false
set_option linter.unusedSimpArgs false
namespace Fi
open Go
section
variable {mn:Prop}
section step
variable {P:Program} {E:Env} {cx:Cx} {σ:Nat->Option FuncId} {β:Map} {I Wr:Nat->Prop} {wd:Nat->Prop} {w:World} {st st':St} {env:List FV} {ρ:Operand->Value} {aL:List (Option Tmp)}
variable {rec:Nat->List FV->List ah->bJ} {draw:Bool} {v:FV}
def bX (P:Program)(E:Env)(cx:Cx)(σ:Nat->Option FuncId)(β:Map)(I:Nat->Prop)(w:World)(st:St)(env:List FV)(aL:List (Option Tmp))(ρ:Operand->Value)(xs:List Operand):Prop :=
 ∀ ty x y f,x ∈ xs->jb P cx aL ty x=some y->dw E st env y=some f->aI σ β I w st.base.length f (ρ x)
theorem jc {xs:List Operand}(hA:bX P E cx σ β I w st env aL ρ xs):∀ {yg:List TypeId} {l:List Operand} {as:List Arg} {fs:List FV},(∀ x ∈ l,x ∈ xs)->iC P cx aL yg l=some as->fF E st env as=some fs ->
  gW σ β I w st.base.length fs (l.map ρ)
 | yg,[],as,fs,_,hc,hf=>by
  simp[iC]at hc;subst hc;simp[fF]at hf;subst hf;exact⟨rfl,fun i c x h=>by simp at h⟩
 | yg,x::l,as,fs,hm,hc,hf=>by
  simp only[iC]at hc;split at hc<;>simp at hc;subst hc;rename_i y s h1 h2;simp only[fF]at hf;split at hf<;>simp at hf;subst hf;rename_i f fs' h3 h4;obtain⟨g1,g2⟩:=jc hA (fun x hx=>hm x (by simp[hx])) h2 h4;refine⟨by simp[g1],fun i c z hc hz => ?_⟩;cases i with
  | zero=>simp at hc hz;subst hc;subst hz;exact hA _ x y f (hm x aC) h1 h3
  | succ i=>exact g2 i c z (by simpa using hc) (by simpa using hz)
theorem Yu {n:Nat}{f:FV}{i:Int}{x:Value}(h:G5 f=some i)(hr:aI σ β I w n f x):∃ k,x=.int k i:=by
 unfold G5 at h;split at h
 ·rename_i k m;simp at h;subst h;exact⟨k,hr.val⟩
 ·simp at h
theorem iX {xs:List Operand}(hA:bX P E cx σ β I w st env aL ρ xs){x:Option Operand}{y:Option Arg}{dflt i:Int}(hm:∀ o,x=some o->o ∈ xs)(hc:wE P cx aL x=some y)(hv:kL y dflt (dw E st env)=some i):kZ ρ x dflt i:=by
 cases x with
 | none =>
  simp[wE]at hc;subst hc;simp[kL]at hv;exact hv.symm
 | some o =>
  simp only[wE]at hc;split at hc<;>simp at hc;subst hc;rename_i y' h1;simp only[kL]at hv;split at hv
  ·rename_i f h2;exact Yu hv (hA _ o y' f (hm o rfl) h1 h2)
  ·simp at hv
theorem Yields.cast {o:Oper}{n:Nat}{v1 v2:FV}{s1 s2:St}(h:Yields P o ρ w (Post mn σ n (st.base++st.loc).length β I Wr wd w s1 v1))(e1:v1=v2)(e2:s1=s2):Yields P o ρ w (Post mn σ n (st.base++st.loc).length β I Wr wd w s2 v2):=by subst e1;subst e2;exact h
variable {type:TypeId} {dst:Option Tmp} {pos:String} {after:Array Edge} {guard:Option (Nat × Bool)} {k:K}
theorem ac1 {op:Op}{x:Operand}(hop:op=.move x\/op=.assign x)(hc:aY P cx aL ⟨dst,op,type,pos,after,guard⟩=some k)(hk:runK E rec draw st env k=some (v,st'))(hS:fQ σ β I Wr wd w st)
  (hA:bX P E cx σ β I w st env aL ρ op.operands.toList):Yields P ⟨dst,op,type,pos,after,guard⟩ ρ w (g_ mn σ β I Wr wd w st st' v):=by
 have hc':(match jb P cx aL type x with|some a=>some (K.Bh a)|none=>none)=some k:=by rcases hop with rfl|rfl<;>exact hc
 have hm:x ∈ op.operands.toList:=by rcases hop with rfl|rfl<;>simp[Op.operands]
 split at hc'<;>simp at hc';subst hc';rename_i a ha;simp only[runK]at hk;split at hk<;>simp at hk;obtain⟨rfl,rfl⟩:=hk;rename_i f hf;exact aim hop hS (hA _ x a _ hm ha hf)
theorem afv {c a b:Operand}(hc:aY P cx aL ⟨dst,.pick c a b,type,pos,after,guard⟩=some k)(hk:runK E rec draw st env k=some (v,st'))(hS:fQ σ β I Wr wd w st)
  (hA:bX P E cx σ β I w st env aL ρ [c,a,b]):Yields P ⟨dst,.pick c a b,type,pos,after,guard⟩ ρ w (g_ mn σ β I Wr wd w st st' v):=by
 simp only[aY]at hc;split at hc<;>simp at hc;subst hc;rename_i c' a' b' h1 h2 h3;simp only[runK]at hk;split at hk
 ·rename_i t ht;split at hk<;>simp at hk;obtain⟨rfl,rfl⟩:=hk;rename_i f hf;refine afk (t:=t) hS (hA _ c c' _ aC h1 ht) ?_;cases t
  ·exact hA _ b b' _ aC h3 (by simpa using hf)
  ·exact hA _ a a' _ aC h2 (by simpa using hf)
 ·simp at hk
theorem aix {op:BinOp}{xt yt:TypeId}{x y:Operand}(u_:∀ v,ρ (.const v)=v)(hc:aY P cx aL ⟨dst,.binOp op xt x y yt,type,pos,after,guard⟩=some k)(hk:runK E rec draw st env k=some (v,st'))(hS:fQ σ β I Wr wd w st)
  (hA:bX P E cx σ β I w st env aL ρ [x,y]):Yields P ⟨dst,.binOp op xt x y yt,type,pos,after,guard⟩ ρ w (g_ mn σ β I Wr wd w st st' v):=by
 simp only[aY,Qf]at hc;split at hc
 ·rename_i a b ha hb;have main:∀ op',op'=op->runK E rec draw st env (.bin op' a b)=some (v,st')->Yields P ⟨dst,.binOp op xt x y yt,type,pos,after,guard⟩ ρ w (g_ mn σ β I Wr wd w st st' v):=by
   intro op' hop hk;subst hop;simp only[runK]at hk;split at hk
   ·rename_i p q hp hq;split at hk<;>simp at hk;obtain⟨rfl,rfl⟩:=hk;rename_i r hr;exact ain hr hS (hA _ x a _ aC ha hp) (hA _ y b _ aC hb hq)
   ·simp at hk
  split at hc
  ·simp at hc;subst hc;exact main _ rfl hk
  ·simp at hc;subst hc;exact main _ rfl hk
  ·rename_i ht;have mb:∀ neg,op=(if neg then .neq else .eql)->k=.beq neg a b->Yields P ⟨dst,.binOp op xt x y yt,type,pos,after,guard⟩ ρ w (g_ mn σ β I Wr wd w st st' v):=by
    intro neg hop hke;subst hke;simp only[runK]at hk;split at hk<;>simp at hk;obtain⟨rfl,rfl⟩:=hk;rename_i p q hp hq;have:=aio (mn:=mn) (dst:=dst) (type:=type) (pos:=pos) (after:=after) (guard:=guard) (yt:=yt) hop ht hS (hA _ x a _ aC ha hp) (hA _ y b _ aC hb hq);exact this
   split at hc<;>simp at hc
   ·exact mb false rfl hc.symm
   ·exact mb true rfl hc.symm
  ·rename_i len e ht;have mb:∀ neg k0,op=(if neg then .neq else .eql)->P.underlying e=some (.int k0)->aZ P e=some 1->P.eqGuardType P.depth xt=false->k=.aeq neg len a b->Yields P ⟨dst,.binOp op xt x y yt,type,pos,after,guard⟩ ρ w (g_ mn σ β I Wr wd w st st' v):=by
    intro neg k0 hop hu hs hq hke;subst hke;simp only[runK]at hk;split at hk
    ·rename_i p q hp hq';split at hk
     ·rename_i hl;split at hk<;>simp at hk;obtain⟨rfl,rfl⟩:=hk;rename_i t hv;have:=aiv (mn:=mn) (dst:=dst) (type:=type) (pos:=pos) (after:=after) (guard:=guard) (yt:=yt) hop ht hu hs hq hl hv hS (hA _ x a _ aC ha hp) (hA _ y b _ aC hb hq');exact this.cast (by cases neg<;>rfl) rfl
     ·cases hk
    ·cases hk
   split at hc
   ·rename_i k0 hu hs;split at hc
    ·cases hc
    ·rename_i hq;cases hc;exact mb false k0 rfl hu hs (by simpa using hq) rfl
   ·rename_i k0 hu hs;split at hc
    ·cases hc
    ·rename_i hq;cases hc;exact mb true k0 rfl hu hs (by simpa using hq) rfl
   ·cases hc
  ·rename_i e ht;have mb:∀ neg,op=(if neg then .neq else .eql)->y=.const (.slice none 0 0)->k=.x_ 0 neg a->Yields P ⟨dst,.binOp op xt x y yt,type,pos,after,guard⟩ ρ w (g_ mn σ β I Wr wd w st st' v):=by
    intro neg hop hy hke;subst hke;subst hy;simp only[runK]at hk;split at hk<;>simp at hk
    ·rename_i sz _ hp;obtain⟨rfl,rfl⟩:=hk;have hx:=oD (hA _ x a _ aC ha hp);have:=t_ (mn:=mn) (dst:=dst) (type:=type) (pos:=pos) (after:=after) (guard:=guard) (yt:=yt) hop u_ ht hx hS;exact this.cast (by cases neg<;>rfl) rfl
    ·rename_i sz e0 es _ hp;obtain⟨rfl,rfl⟩:=hk;have hr:=hA _ x a _ aC ha hp;obtain⟨ad,l,c,hx⟩:∃ ad l c,ρ x=.slice (some ad) l c:=by
      generalize ρ x=z at hr;cases hr with
      | d hr=>cases hr with
       | s u h1 h2 h3 h4 h5 h6=>exact⟨_,_,_,rfl⟩
     have:=t_ (mn:=mn) (dst:=dst) (type:=type) (pos:=pos) (after:=after) (guard:=guard) (yt:=yt) hop u_ ht hx hS;exact this.cast (by cases neg<;>rfl) rfl
    ·rename_i sz _ hp;obtain⟨rfl,rfl⟩:=hk;have hr:=hA _ x a _ aC ha hp;obtain⟨ad,l,c,hx⟩:∃ ad l c,ρ x=.slice (some ad) l c:=by
      generalize ρ x=z at hr;cases hr with
      | z=>exact⟨_,_,_,rfl⟩
     have:=t_ (mn:=mn) (dst:=dst) (type:=type) (pos:=pos) (after:=after) (guard:=guard) (yt:=yt) hop u_ ht hx hS;exact this.cast (by cases neg<;>rfl) rfl
    ·rename_i h1 h2;simp at h1
    ·rename_i h1 h2;simp at h1
   split at hc<;>simp at hc
   ·exact mb false rfl rfl hc.symm
   ·exact mb true rfl rfl hc.symm
  ·rename_i ms ht;have mb:∀ neg,op=(if neg then .neq else .eql)->y=.const .nilIface->k=.x_ 1 neg a->Yields P ⟨dst,.binOp op xt x y yt,type,pos,after,guard⟩ ρ w (g_ mn σ β I Wr wd w st st' v):=by
    intro neg hop hy hke;subst hke;subst hy;simp only[runK]at hk;split at hk<;>simp at hk
    ·rename_i h1 h2;simp at h1
    ·rename_i h1 h2;simp at h1
    ·rename_i h1 h2;simp at h1
    ·rename_i _ hp;obtain⟨rfl,rfl⟩:=hk;have hx:=(hA _ x a _ aC ha hp).val;have:=AP (mn:=mn) (dst:=dst) (type:=type) (pos:=pos) (after:=after) (guard:=guard) (yt:=yt) (r:=true) hop u_ ht hx (.inl ⟨rfl,rfl⟩) hS;exact this.cast (by cases neg<;>rfl) rfl
    ·rename_i _ hp;obtain⟨rfl,rfl⟩:=hk;have hr:=hA _ x a _ aC ha hp;obtain⟨k1,y1,hx⟩:∃ k1 y1,ρ x=.iface k1 y1:=by
      generalize ρ x=z at hr;cases hr with
      | d hr=>cases hr with
       | i t y=>exact⟨_,_,rfl⟩
     have:=AP (mn:=mn) (dst:=dst) (type:=type) (pos:=pos) (after:=after) (guard:=guard) (yt:=yt) (r:=false) hop u_ ht hx (.inr ⟨_,_,rfl,rfl⟩) hS;exact this.cast (by cases neg<;>rfl) rfl
   split at hc<;>simp at hc
   ·exact mb false rfl rfl hc.symm
   ·exact mb true rfl rfl hc.symm
  ·simp at hc
 ·simp at hc
theorem ald {op:UnOp}{xt:TypeId}{x:Operand}(hc:aY P cx aL ⟨dst,.unOp op xt x,type,pos,after,guard⟩=some k)(hk:runK E rec draw st env k=some (v,st'))(hS:fQ σ β I Wr wd w st)
  (hA:bX P E cx σ β I w st env aL ρ [x]):Yields P ⟨dst,.unOp op xt x,type,pos,after,guard⟩ ρ w (g_ mn σ β I Wr wd w st st' v):=by
 simp only[aY]at hc;split at hc<;>simp at hc;subst hc;rename_i a ha;simp only[runK]at hk;split at hk
 ·rename_i p hp;split at hk<;>simp at hk;obtain⟨rfl,rfl⟩:=hk;rename_i r hr;exact ak_ hr hS (hA _ x a _ aC ha hp)
 ·simp at hk
theorem afw {src dt:TypeId}{x:Operand}(hc:aY P cx aL ⟨dst,.convert src dt x,type,pos,after,guard⟩=some k)(hk:runK E rec draw st env k=some (v,st'))(hS:fQ σ β I Wr wd w st)
  (hA:bX P E cx σ β I w st env aL ρ [x]):Yields P ⟨dst,.convert src dt x,type,pos,after,guard⟩ ρ w (g_ mn σ β I Wr wd w st st' v):=by
 simp only[aY]at hc;split at hc
 ·rename_i k1 k2 h1 h2;split at hc<;>simp at hc;subst hc;rename_i a ha;simp only[runK]at hk;split at hk<;>simp at hk;obtain⟨rfl,rfl⟩:=hk;rename_i hp;exact afl h1 h2 hS (hA _ x a _ aC ha hp)
 ·simp at hc
theorem aiy {e:TypeId}{x:Operand}(hc:aY P cx aL ⟨dst,.box e x,type,pos,after,guard⟩=some k)(hk:runK E rec draw st env k=some (v,st'))(hS:fQ σ β I Wr wd w st)
  (hA:bX P E cx σ β I w st env aL ρ [x]):Yields P ⟨dst,.box e x,type,pos,after,guard⟩ ρ w (g_ mn σ β I Wr wd w st st' v):=by
 simp only[aY]at hc;split at hc<;>simp at hc;subst hc;rename_i a ha;simp only[runK]at hk;split at hk
 ·rename_i f hf;split at hk<;>simp at hk;obtain⟨rfl,rfl⟩:=hk;rename_i ho;exact aip ho hS (hA _ x a _ aC ha hf)
 ·simp at hk
theorem aiz {e:TypeId}(bA:∀ f g,cx.gid f=some g->σ g=some f)(hc:aY P cx aL ⟨dst,.alloc e,type,pos,after,guard⟩=some k)(hk:runK E rec draw st env k=some (v,st'))(hS:fQ σ β I Wr wd w st) :
  Yields P ⟨dst,.alloc e,type,pos,after,guard⟩ ρ w (g_ mn σ β I Wr wd w st st' v):=by
 simp only[aY]at hc;split at hc<;>simp at hc;subst hc;rename_i z hz;simp only[runK]at hk;simp at hk;obtain⟨rfl,rfl⟩:=hk;exact aiq bA hz hS
theorem afx {t:TypeId}{x:Operand}(hc:aY P cx aL ⟨dst,.load t x,type,pos,after,guard⟩=some k)(hk:runK E rec draw st env k=some (v,st'))(hS:fQ σ β I Wr wd w st)
  (hA:bX P E cx σ β I w st env aL ρ [x]):Yields P ⟨dst,.load t x,type,pos,after,guard⟩ ρ w (g_ mn σ β I Wr wd w st st' v):=by
 simp only[aY]at hc;split at hc<;>simp at hc;subst hc;rename_i a g m ha hg hm;simp only[runK]at hk;split at hk
 ·rename_i q off hp;split at hk
  ·rename_i cs hq;split at hk<;>simp at hk;obtain⟨hpu,rfl,rfl⟩:=hk;rename_i hv;exact Yk hg hm hq hv hS (hA _ x a _ aC ha hp)
  ·simp at hk
 ·rename_i q av sz i off hp;have main:∀ es,(st.heap q=some (.row av sz es)\/st.heap q=some (.h_ av sz es))->(match es[i]? with|some x=>(match iI x.cells g off m with|some v=>some (FV.d v,st)|none=>none)|none=>none)=some (v,st') ->
    Yields P ⟨dst,.load t x,type,pos,after,guard⟩ ρ w (g_ mn σ β I Wr wd w st st' v):=by
   intro es hq hk;split at hk
   ·rename_i e he;split at hk<;>simp at hk;obtain⟨rfl,rfl⟩:=hk;rename_i d hd;exact Yl hg hm hq he hd hS (hA _ x a _ aC ha hp)
   ·simp at hk
  split at hk
  ·rename_i jO fE es hq;split at hk
   ·rename_i hh;obtain⟨rfl,rfl⟩:=hh;exact main es (.inl hq) hk
   ·simp at hk
  ·rename_i jO fE es hq;split at hk
   ·rename_i hh;obtain⟨rfl,rfl⟩:=hh;exact main es (.inr hq) hk
   ·simp at hk
  ·simp at hk
 ·rename_i y hp;split at hk<;>simp at hk;obtain⟨rfl,rfl⟩:=hk;rename_i d hd;exact Sq hg hm hd hS (hA _ x a _ aC ha hp)
 ·simp at hk
theorem ab1 {t:TypeId}{x y:Operand}(hc:aY P cx aL ⟨dst,.store t x y,type,pos,after,guard⟩=some k)(hk:runK E rec draw st env k=some (v,st'))(hdt:k.loud draw=true->jm st.base.length st' wd)(hS:fQ σ β I Wr wd w st)
  (hA:bX P E cx σ β I w st env aL ρ [x,y]):Yields P ⟨dst,.store t x y,type,pos,after,guard⟩ ρ w (g_ mn σ β I Wr wd w st st' v):=by
 simp only[aY]at hc;split at hc<;>simp at hc;subst hc;rename_i a b m ha hb hm;simp only[runK]at hk;split at hk
 ·rename_i q off f hp hf;split at hk
  ·rename_i cs hq;split at hk<;>simp at hk;obtain⟨rfl,rfl⟩:=hk;rename_i hh;exact SA hm hq hh.1 hh.2.1 hh.2.2 (hdt rfl) hS (hA _ x a _ aC ha hp) (hA _ y b _ aC hb hf)
  ·simp at hk
 ·rename_i q av sz i off f hp hf;split at hk
  ·rename_i jO fE es hq;split at hk
   ·rename_i hh;obtain⟨rfl,rfl⟩:=hh;split at hk
    ·rename_i cs he;split at hk<;>simp at hk;obtain⟨rfl,rfl⟩:=hk;rename_i hh;exact GG hm hq he hh.1 hh.2.2 hh.2.1 rfl (hdt rfl) hS (hA _ x a _ aC ha hp) (hA _ y b _ aC hb hf)
    ·rename_i e0 hne he;split at hk<;>simp at hk;obtain⟨rfl,rfl⟩:=hk;rename_i hh;obtain⟨h1,rfl,h3⟩:=hh;have hcl:=D.Lm h3;have he0:e0.cells=[e0]:=by cases e0<;>first|rfl|exact absurd rfl (hne _)
     refine GG hm hq he (by rw[hcl,h1];rfl) (by rw[hcl];simp[h3]) (by rw[he0,h1];simp) (by rw[he0,hcl];rfl) (hdt rfl) hS (hA _ x a _ aC ha hp) (hA _ y b _ aC hb hf)
    ·simp at hk
   ·simp at hk
  ·simp at hk
 ·simp at hk
theorem ab2 {s:TypeId}{x:Operand}{i:Nat}(hc:aY P cx aL ⟨dst,.fieldAddr s x i,type,pos,after,guard⟩=some k)(hk:runK E rec draw st env k=some (v,st'))(hS:fQ σ β I Wr wd w st)
  (hA:bX P E cx σ β I w st env aL ρ [x]):Yields P ⟨dst,.fieldAddr s x i,type,pos,after,guard⟩ ρ w (g_ mn σ β I Wr wd w st st' v):=by
 simp only[aY]at hc;split at hc
 ·rename_i fs hs;split at hc
  ·rename_i fl hfl;split at hc
   ·rename_i a g m ha hg hm;split at hc<;>simp at hc;subst hc;rename_i h0;simp only[runK]at hk;split at hk<;>(try simp at hk)
    ·rename_i q o hp;obtain⟨rfl,rfl⟩:=hk;exact Sr hs hfl hm h0 hS (hA _ x a _ aC ha hp)
    ·rename_i q av sz j o hp;obtain⟨rfl,rfl⟩:=hk;exact Su hs hfl hm h0 hS (hA _ x a _ aC ha hp)
    ·rename_i y hp;split at hk<;>simp at hk;obtain⟨rfl,rfl⟩:=hk;rename_i d hd;exact Oo hs hfl hm h0 hd hS (hA _ x a _ aC ha hp)
   ·simp at hc
  ·simp at hc
 ·simp at hc
theorem Ez {x:Operand}{a:Addr}{y:FV}(hρ:ρ x=.pointer (some a))(hS:fQ σ β I Wr wd w st)(hr:aI σ β I w st.base.length y (.pointer (some a))) :
  Yields P ⟨dst,.nilCheck x,type,pos,after,guard⟩ ρ w (g_ mn σ β I Wr wd w st st y):=by
 refine aB (w':=w) ?_ (Post.same hS hr);simp[execOp,hρ]
theorem aiA {x:Operand}(hc:aY P cx aL ⟨dst,.nilCheck x,type,pos,after,guard⟩=some k)(hk:runK E rec draw st env k=some (v,st'))(hS:fQ σ β I Wr wd w st)
  (hA:bX P E cx σ β I w st env aL ρ [x]):Yields P ⟨dst,.nilCheck x,type,pos,after,guard⟩ ρ w (g_ mn σ β I Wr wd w st st' v):=by
 simp only[aY]at hc;split at hc<;>simp at hc;subst hc;rename_i a ha;simp only[runK]at hk;split at hk<;>(try simp at hk)
 ·rename_i q o hp;obtain⟨rfl,rfl⟩:=hk;have hx:=hA _ x a _ aC ha hp;generalize hρ:ρ x=xv at hx;cases hx with
  | r hb=>exact Ez hρ hS (.r hb)
 ·rename_i q av sz j o hp;obtain⟨rfl,rfl⟩:=hk;have hx:=hA _ x a _ aC ha hp;generalize hρ:ρ x=xv at hx;cases hx with
  | e hb=>exact Ez hρ hS (.e hb)
 ·rename_i y hp;split at hk<;>simp at hk;obtain⟨rfl,rfl⟩:=hk;rename_i d hd;have hx:=hA _ x a _ aC ha hp;generalize hρ:ρ x=xv at hx;cases hx with
  | rc hb ho hat=>exact Ez hρ hS (IQ hb ho hat hd)
theorem ab3 {s:TypeId}{x:Operand}{i:Nat}(hc:aY P cx aL ⟨dst,.field s x i,type,pos,after,guard⟩=some k)(hk:runK E rec draw st env k=some (v,st'))(hS:fQ σ β I Wr wd w st)
  (hA:bX P E cx σ β I w st env aL ρ [x]):Yields P ⟨dst,.field s x i,type,pos,after,guard⟩ ρ w (g_ mn σ β I Wr wd w st st' v):=by
 simp only[aY]at hc;split at hc
 ·rename_i fs hs;split at hc
  ·rename_i fl hfl;split at hc<;>simp at hc;subst hc;rename_i a g m ha hg hm;simp only[runK]at hk;split at hk<;>(try simp at hk)
   ·rename_i cs hp;split at hk<;>simp at hk;obtain⟨rfl,rfl⟩:=hk;rename_i hv;exact Yh hs hfl hg hm hv hS (hA _ x a _ aC ha hp)
   ·rename_i cs hp;split at hk<;>simp at hk;obtain⟨rfl,rfl⟩:=hk;rename_i hv;exact Yi hs hfl hg hm hv hS (hA _ x a _ aC ha hp)
  ·simp at hc
 ·simp at hc
end step
end
section
variable {mn:Prop}
section step
variable {P:Program} {E:Env} {cx:Cx} {σ:Nat->Option FuncId} {β:Map} {I Wr:Nat->Prop} {wd:Nat->Prop} {w:World} {st st':St} {env:List FV} {ρ:Operand->Value} {aL:List (Option Tmp)}
variable {rec:Nat->List FV->List ah->bJ} {draw:Bool} {v:FV}
variable {type:TypeId} {dst:Option Tmp} {pos:String} {after:Array Edge} {guard:Option (Nat × Bool)} {k:K}
theorem ab4 {t:TypeId}{x ix:Operand}(hc:aY P cx aL ⟨dst,.indexAddr t x ix,type,pos,after,guard⟩=some k)(hk:runK E rec draw st env k=some (v,st'))(hS:fQ σ β I Wr wd w st)
  (hA:bX P E cx σ β I w st env aL ρ [x,ix]):Yields P ⟨dst,.indexAddr t x ix,type,pos,after,guard⟩ ρ w (g_ mn σ β I Wr wd w st st' v):=by
 simp only[aY]at hc;split at hc
 ·rename_i e ht;split at hc<;>simp at hc;subst hc;rename_i a b m ha hb hm;simp only[runK]at hk;split at hk
  ·rename_i q av sz off l kk j hp hi;split at hk<;>simp at hk;obtain⟨rfl,rfl⟩:=hk;rename_i hh;obtain⟨rfl,h0,h1⟩:=hh;exact Oq ht hm h0 h1 hS (hA _ x a _ aC ha hp) (hA _ ix b _ aC hb hi)
  ·rename_i sz es kk j hp hi;split at hk
   ·rename_i hh;obtain⟨rfl,h0⟩:=hh;split at hk<;>simp at hk;obtain⟨rfl,rfl⟩:=hk;rename_i y hy;exact Sw ht hm h0 hy hS (hA _ x a _ aC ha hp) (hA _ ix b _ aC hb hi)
   ·simp at hk
  ·simp at hk
 ·rename_i len e ht;split at hc<;>simp at hc;subst hc;rename_i a b m g ha hb hm hg;simp only[runK]at hk;split at hk
  ·rename_i q o kk j hp hi;split at hk<;>simp at hk;obtain⟨rfl,rfl⟩:=hk;rename_i hh;exact Sy ht hm hh.1 hh.2 hS (hA _ x a _ aC ha hp) (hA _ ix b _ aC hb hi)
  ·rename_i q av s i o kk j hp hi;split at hk<;>simp at hk;obtain⟨rfl,rfl⟩:=hk;rename_i hh;exact Sz ht hm hh.1 hh.2 hS (hA _ x a _ aC ha hp) (hA _ ix b _ aC hb hi)
  ·rename_i y kk j hp hi;split at hk
   ·rename_i hh;split at hk<;>simp at hk;obtain⟨rfl,rfl⟩:=hk;rename_i d hd;exact Ot ht hm hh.1 hh.2 hd hS (hA _ x a _ aC ha hp) (hA _ ix b _ aC hb hi)
   ·simp at hk
  ·simp at hk
 ·simp at hc
theorem ab5 {t:TypeId}{x ix:Operand}(hc:aY P cx aL ⟨dst,.index t x ix,type,pos,after,guard⟩=some k)(hk:runK E rec draw st env k=some (v,st'))(hS:fQ σ β I Wr wd w st)
  (hA:bX P E cx σ β I w st env aL ρ [x,ix]):Yields P ⟨dst,.index t x ix,type,pos,after,guard⟩ ρ w (g_ mn σ β I Wr wd w st st' v):=by
 simp only[aY]at hc;split at hc
 ·rename_i len e ht;split at hc<;>simp at hc;subst hc;rename_i a b m g ha hb hm hg;simp only[runK]at hk;split at hk
  ·rename_i cs kk j hp hi;split at hk
   ·rename_i hh;split at hk<;>simp at hk;obtain⟨rfl,rfl⟩:=hk;rename_i d hd;exact abW ht hg hm hh.1 hh.2 hd hS (hA _ x a _ aC ha hp) (hA _ ix b _ aC hb hi)
   ·simp at hk
  ·simp at hk
 ·rename_i ht;split at hc<;>simp at hc;subst hc;rename_i a b ha hb;simp only[runK]at hk;split at hk
  ·rename_i s kk j hp hi;split at hk
   ·rename_i h0;split at hk<;>simp at hk;obtain⟨rfl,rfl⟩:=hk;rename_i c hc';exact Yj ht h0 hc' hS (hA _ x a _ aC ha hp) (hA _ ix b _ aC hb hi)
   ·simp at hk
  ·simp at hk
 ·simp at hc
theorem aiB {x:Operand}{i:Nat}(hc:aY P cx aL ⟨dst,.extract x i,type,pos,after,guard⟩=some k)(hk:runK E rec draw st env k=some (v,st'))(hS:fQ σ β I Wr wd w st)
  (hA:bX P E cx σ β I w st env aL ρ [x]):Yields P ⟨dst,.extract x i,type,pos,after,guard⟩ ρ w (g_ mn σ β I Wr wd w st st' v):=by
 simp only[aY]at hc;split at hc<;>simp at hc;subst hc;rename_i a ha;simp only[runK]at hk;split at hk<;>(try simp at hk)
 ·rename_i vs hp;split at hk<;>simp at hk;obtain⟨rfl,rfl⟩:=hk;rename_i hv;exact afm hv hS (hA _ x a _ aC ha hp)
 ·rename_i vs hp;split at hk<;>simp at hk;obtain⟨rfl,rfl⟩:=hk;rename_i hv;exact afn hv hS (hA _ x a _ aC ha hp)
theorem ale {t:TypeId}{x y:Operand}(bA:∀ f g,cx.gid f=some g->σ g=some f)(hc:aY P cx aL ⟨dst,.makeSlice t x y,type,pos,after,guard⟩=some k)(hk:runK E rec draw st env k=some (v,st'))(hS:fQ σ β I Wr wd w st)
  (hA:bX P E cx σ β I w st env aL ρ [x,y]):Yields P ⟨dst,.makeSlice t x y,type,pos,after,guard⟩ ρ w (g_ mn σ β I Wr wd w st st' v):=by
 simp only[aY]at hc;split at hc
 ·rename_i e ht;split at hc
  ·rename_i m b g z a a' hm hb hg hz ha ha';split at hc<;>simp at hc;subst hc;rename_i hh;simp only[not_or]at hh;obtain⟨h0,h1,h2⟩:=hh;simp only[runK]at hk;split at hk
   ·rename_i kl l kc c hp hq;split at hk<;>simp only[Qe0,Qm0,reduceCtorEq]at hk;obtain⟨rfl,rfl⟩:=hk;rename_i hh;obtain⟨g0,g1,g2,g3⟩:=hh;exact alb bA ht hm hb hz ae (by simpa using h1) h2 g0 g1 g2 g3 hS (hA _ x a _ aC ha hp) (hA _ y a' _ aC ha' hq)
   ·simp at hk
  ·simp at hc
 ·simp at hc
theorem ab6 {t:TypeId}{x:Operand}{lo hi:Option Operand}(hc:aY P cx aL ⟨dst,.slice t x lo hi none,type,pos,after,guard⟩=some k)(hk:runK E rec draw st env k=some (v,st'))(hS:fQ σ β I Wr wd w st)
  (hA:bX P E cx σ β I w st env aL ρ ([x]++lo.toList++hi.toList)):Yields P ⟨dst,.slice t x lo hi none,type,pos,after,guard⟩ ρ w (g_ mn σ β I Wr wd w st st' v):=by
 have ab7:∀ o,lo=some o->o ∈ [x]++lo.toList++hi.toList:=fun o h=>by subst h;simp
 have ab8:∀ o,hi=some o->o ∈ [x]++lo.toList++hi.toList:=fun o h=>by subst h;simp
 simp only[aY]at hc;split at hc
 ·rename_i e ht;split at hc
  ·rename_i m a l h hm ha hl hh;split at hc<;>simp at hc;subst hc;simp only[runK]at hk;split at hk
   ·rename_i sz es hp;split at hk
    ·rename_i li hi' e1 e2;split at hk<;>simp at hk;obtain⟨rfl,rfl⟩:=hk;rename_i hb;obtain⟨rfl,b0,b1,b2⟩:=hb;exact SG ht hm (iX hA ab7 hl e1) (iX hA ab8 hh e2) b0 b1 b2 hS (hA _ x a _ aC ha hp)
    ·simp at hk
   ·rename_i sz hp;split at hk
    ·rename_i li hi' e1 e2;split at hk<;>simp at hk;obtain⟨rfl,rfl⟩:=hk;rename_i hb;obtain⟨rfl,rfl,rfl⟩:=hb;exact SF ht hm (iX hA ab7 hl e1) (iX hA ab8 hh e2) hS (hA _ x a _ aC ha hp)
    ·simp at hk
   ·rename_i q av sz off n hp;split at hk
    ·rename_i li hi' e1 e2;split at hk<;>simp at hk;obtain⟨rfl,rfl⟩:=hk;rename_i hb;obtain⟨rfl,b0,b1,b2⟩:=hb;exact Ov ht hm (iX hA ab7 hl e1) (iX hA ab8 hh e2) b0 b1 b2 hS (hA _ x a _ aC ha hp)
    ·simp at hk
   ·simp at hk
  ·simp at hc
 ·rename_i ht;split at hc<;>simp at hc;subst hc;rename_i a l h ha hl hh;simp only[runK]at hk;split at hk
  ·rename_i s hp;split at hk
   ·rename_i li hi' e1 e2;split at hk<;>simp at hk;obtain⟨rfl,rfl⟩:=hk;rename_i hb;exact Yp ht (iX hA ab7 hl e1) (iX hA ab8 hh e2) hb.1 hb.2.1 hb.2.2 hS (hA _ x a _ aC ha hp)
   ·simp at hk
  ·simp at hk
 ·simp at hc
theorem aiC {f:FuncId}{first captured:Array Operand}(bA:∀ f g,cx.gid f=some g->σ g=some f)(hc:aY P cx aL ⟨dst,.makeFunc (.func f) first captured,type,pos,after,guard⟩=some k)(hk:runK E rec draw st env k=some (v,st')) 
  (hS:fQ σ β I Wr wd w st) (hA:bX P E cx σ β I w st env aL ρ (first.toList++captured.toList)) :
  Yields P ⟨dst,.makeFunc (.func f) first captured,type,pos,after,guard⟩ ρ w (g_ mn σ β I Wr wd w st st' v):=by
 simp only[aY]at hc;split at hc<;>simp at hc;subst hc;rename_i g fs cs hg hfs hcs;simp only[runK]at hk;split at hk
 ·rename_i fv cv h1 h2;have r1:=jc hA (fun x hx=>by simp at hx ⊢;exact .inl hx) hfs h1;have r2:=jc hA (fun x hx=>by simp at hx ⊢;exact .inr hx) hcs h2;have hy:=aiu (mn:=mn) (P:=P) (dst:=dst) (type:=type) (pos:=pos) (after:=after) (guard:=guard) (first:=first) (captured:=captured) (bA _ _ hg) (by simpa using r1) (by simpa using r2) hS;split at hk<;>simp at hk
  ·obtain⟨rfl,rfl⟩:=hk;rename_i hh;rw[if_pos (by simpa using hh)]at hy;exact hy
  ·obtain⟨rfl,rfl⟩:=hk;rename_i hh;rw[if_neg (by simpa using hh)]at hy;exact hy
 ·simp at hk
theorem mapM_pure {agg:Bool}{sz:Nat}:∀ {xs:List FV} {ys:List D},xs.mapM (jP agg sz)=some ys->ys.length=xs.length/\∀ (i:Nat) (x:FV) (y:D),xs[i]?=some x->ys[i]?=some y->jP agg sz x=some y
 | [],ys,h=>by simp at h;subst h;exact⟨rfl,fun i x y h=>by simp at h⟩
 | x::xs,ys,h=>by
  rw[List.mapM_cons]at h;cases h1:jP agg sz x with
  | none=>rw[h1]at h;simp at h
  | some y =>
   cases h2:xs.mapM (jP agg sz) with
   | none=>rw[h1,h2]at h;simp at h
   | some s =>
    rw[h1,h2]at h;simp at h;subst h;obtain⟨a,b⟩:=mapM_pure h2;refine⟨by simp[a],fun i x' y' hx hy => ?_⟩;cases i with
    | zero=>simp at hx hy;subst hx;subst hy;exact h1
    | succ i=>exact b i x' y' (by simpa using hx) (by simpa using hy)
theorem aiD {t:TypeId}{len:Nat}{parts:Array (Nat × Operand)}(bA:∀ f g,cx.gid f=some g->σ g=some f)(hc:aY P cx aL ⟨dst,.buildSlice t len parts,type,pos,after,guard⟩=some k)(hk:runK E rec draw st env k=some (v,st')) 
  (hS:fQ σ β I Wr wd w st) (hA:bX P E cx σ β I w st env aL ρ (parts.toList.map (·.2))):Yields P ⟨dst,.buildSlice t len parts,type,pos,after,guard⟩ ρ w (g_ mn σ β I Wr wd w st st' v):=by
 simp only[aY]at hc;split at hc
 ·rename_i e ht;split at hc
  ·rename_i m g z as hm hg hz has;split at hc
   ·simp at hc
   rename_i hh;simp only[Qe0]at hc;simp only[not_or]at hh;obtain⟨h0,h1,h2,h3,h4⟩:=hh;have hal:as.length=parts.toList.length:=by
    have:∀ (yg:List TypeId) (l:List Operand) (as:List Arg),iC P cx aL yg l=some as->as.length=l.length:=by
     intro yg l
     induction l generalizing yg with
     | nil=>intro as h;simp[iC]at h;subst h;rfl
     | cons x l ih =>
      intro as h;simp only[iC]at h;split at h<;>simp at h;subst h;rename_i h2;simp[ih _ _ h2]
    simpa using this _ _ _ has
   cases hL:cx.lits
   ·rw[hL,cond_false]at hc;subst hc;simp only[runK]at hk;have e1:(((parts.toList.map (·.1)).zip as).map (·.2))=as:=by
     rw[List.map_snd_zip];simp[hal]
    have e2:(((parts.toList.map (·.1)).zip as).map (·.1))=parts.toList.map (·.1):=by
     rw[List.map_fst_zip];simp[hal]
    rw[e1,e2]at hk;split at hk
    ·rename_i xs hxs;split at hk
     ·rename_i ys hys;split at hk
      ·rename_i es hes;have r1:=jc hA (fun x hx=>hx) has hxs;obtain⟨p1,p2⟩:=mapM_pure hys;have hy:=ait (mn:=mn) (ρ:=ρ) (dst:=dst) (type:=type) (pos:=pos) (after:=after) (guard:=guard) (parts:=parts) (ys:=ys) bA ht hm hz ae (by simpa using h3) h4 ae ae (by rw[p1,<-r1.1];simp)
        (fun i p y hp hy=>by
         have hlt:i<xs.length:=by rw[<-p1];exact(aT hy)
         have hx:xs[i]?=some xs[i]:=Qa1 _;have hpe:=p2 i _ y hx hy;exact vG hpe (r1.2 i _ _ hx (by simp[hp]))) hes hS
       split at hk<;>simp at hk
       ·obtain⟨rfl,rfl⟩:=hk;rename_i hl;rw[if_pos hl]at hy;exact hy
       ·obtain⟨rfl,rfl⟩:=hk;rename_i hl;rw[if_neg hl]at hy;exact hy
      ·simp at hk
     ·simp at hk
    ·simp at hk
   ·rw[hL,cond_true]at hc;subst hc;simp only[runK]at hk;have e1:(((parts.toList.map (·.1)).zip as).map (·.2))=as:=by
     rw[List.map_snd_zip];simp[hal]
    have e2:(((parts.toList.map (·.1)).zip as).map (·.1))=parts.toList.map (·.1):=by
     rw[List.map_fst_zip];simp[hal]
    rw[e1,e2]at hk;split at hk
    ·rename_i xs hxs;split at hk
     ·rename_i ys hys;split at hk
      ·rename_i es hes;have r1:=jc hA (fun x hx=>hx) has hxs;obtain⟨p1,p2⟩:=mapM_pure hys;have hy:=afq (mn:=mn) (ρ:=ρ) (dst:=dst) (type:=type) (pos:=pos) (after:=after) (guard:=guard) (parts:=parts) (ys:=ys) bA ht hm hz ae (by simpa using h3) h4 ae ae (by rw[p1,<-r1.1];simp)
        (fun i p y hp hy=>by
         have hlt:i<xs.length:=by rw[<-p1];exact(aT hy)
         have hx:xs[i]?=some xs[i]:=Qa1 _;have hpe:=p2 i _ y hx hy;exact vG hpe (r1.2 i _ _ hx (by simp[hp]))) hes hS
       cases hk;exact hy
      ·simp at hk
     ·simp at hk
    ·simp at hk
  ·simp at hc
 ·simp at hc
theorem yw {place:Nat->Option (Nat × TypeId)}{wK:Nat->Option (Nat × Nat)}(hpl:∀ i off ty m,place i=some (off,ty)->aZ P ty=some m->wK i=some (off,m)){xs:List Operand}(hA:bX P E cx σ β I w st env aL ρ xs) :
  ∀ {parts:List (Nat × Operand)} {ps:List (Nat × Nat × Arg)} {fs:List FV},(∀ p ∈ parts,p.2 ∈ xs)->qW P cx aL place parts=some ps->fF E st env (ps.map (·.2.2))=some fs ->
   parts.length=((ps.map (·.1)).zip ((ps.map (·.2.1)).zip fs)).length /\
   ∀ (i:Nat) (p:Nat × Operand) (o:Nat × Nat × FV),parts[i]?=some p->((ps.map (·.1)).zip ((ps.map (·.2.1)).zip fs))[i]?=some o->wK p.1=some (o.1,o.2.1)/\aI σ β I w st.base.length o.2.2 (ρ p.2)
 | [],ps,fs,_,hc,hf=>by
  simp[qW]at hc;subst hc;exact⟨rfl,fun i p o h=>by simp at h⟩
 | (i,x)::parts,ps,fs,hm,hc,hf=>by
  simp only[qW]at hc;split at hc
  ·simp at hc
  ·rename_i off ty hp;split at hc<;>simp at hc;subst hc;rename_i m y s h1 h2 h3;simp only[Qe2,fF]at hf;split at hf<;>simp at hf;subst hf;rename_i f fs' h4 h5;obtain⟨g1,g2⟩:=yw hpl hA (fun p hp=>hm p (by simp[hp])) h3 h5;refine⟨by simp at g1 ⊢;omega,fun j p o hj ho => ?_⟩;cases j with
   | zero =>
    simp at hj ho;subst hj;subst ho;exact⟨hpl i off ty m hp h1,hA _ x y f (hm (i,x) aC) h2 h4⟩
   | succ j=>exact g2 j p o (by simpa using hj) (by simpa using ho)
theorem ab9 {t:TypeId}{parts:Array (Nat × Operand)}(bA:∀ f g,cx.gid f=some g->σ g=some f)(hc:aY P cx aL ⟨dst,.build t parts,type,pos,after,guard⟩=some k)(hk:runK E rec draw st env k=some (v,st')) 
  (hS:fQ σ β I Wr wd w st) (hA:bX P E cx σ β I w st env aL ρ (parts.toList.map (·.2))):Yields P ⟨dst,.build t parts,type,pos,after,guard⟩ ρ w (g_ mn σ β I Wr wd w st st' v):=by
 have hmem:∀ p ∈ parts.toList,p.2 ∈ parts.toList.map (·.2):=fun p hp=>Qg1.2 ⟨p,hp,rfl⟩
 have fin:∀ (z:List D) (ps:List (Nat × Nat × Arg)) (place:Nat->Option (Nat × TypeId)) (wK:Nat->Option (Nat × Nat)),kg cx P t=some z->k=.build z ps->qW P cx aL place parts.toList=some ps ->
   (∀ i off ty m,place i=some (off,ty)->aZ P ty=some m->wK i=some (off,m)) ->
   ((∃ fs,P.underlying t=some (.struct fs)/\(∀ f ∈ fs.toList,(aZ P f.type).isSome)/\wK=fun i=>(fs[i]?).map fun f=>(f.offset,(aZ P f.type).getD 0)) \/
   (∃ len e sz,P.underlying t=some (.array len e)/\aZ P e=some sz/\wK=fun i=>some (i*sz,sz))) ->
   Yields P ⟨dst,.build t parts,type,pos,after,guard⟩ ρ w (g_ mn σ β I Wr wd w st st' v):=by
  intro z ps place wK hz hke hps hpl ht;subst hke;simp only[runK]at hk;split at hk
  ·rename_i xs hxs;split at hk<;>simp at hk;obtain⟨rfl,rfl⟩:=hk;rename_i cs hcs;obtain⟨q1,q2⟩:=yw hpl hA hmem hps hxs;exact abY bA hz ht q1 q2 hcs hS
  ·simp at hk
 simp only[aY]at hc;split at hc
 ·rename_i fs z ht hz;split at hc
  ·simp at hc
  ·rename_i hall;split at hc<;>simp at hc;rename_i ps hps;refine fin z ps _ (fun i=>(fs[i]?).map fun f=>(f.offset,(aZ P f.type).getD 0)) hz hc.symm hps ?_ (.inl ⟨fs,ht,?_,rfl⟩)
   ·intro i off ty m h1 h2;split at h1
    ·rename_i f hf;cases h1;simp[hf,h2]
    ·cases h1
   ·intro f hf;cases hs:aZ P f.type with
    | some m=>rfl
    | none=>exact absurd (Xe1.2 ⟨f,hf,by simp[hs]⟩) hall
 ·rename_i len e z ht hz;split at hc
  ·rename_i m hm;split at hc<;>simp at hc;rename_i ps hps;refine fin z ps _ (fun i=>some (i*m,m)) hz hc.symm hps ?_ (.inr ⟨len,e,m,ht,hm,rfl⟩);intro i off ty m' h1 h2;cases h1;rw[hm]at h2;cases h2;rfl
  ·simp at hc
 ·simp at hc
theorem l_ {P:Program}{f:FV}{x:Value}{r:Nat}(hr:aI σ β I w st.base.length f x)(hf:(∃ sz,f=.d (.n sz)/\r=0)\/(∃ sz es,f=.d (.s sz es)/\r=es.length)\/(∃ q av sz off,f=.ls q av sz off r)) :
  ∃ a c,x=.slice a r c:=by
 rcases hf with ⟨sz,rfl,rfl⟩|⟨sz,es,rfl,rfl⟩|⟨q,av,sz,off,rfl⟩
 ·exact⟨_,_,oD hr⟩
 ·cases hr with
  | d h=>cases h with
   | s0=>exact⟨_,_,rfl⟩
   | s1=>exact⟨_,_,rfl⟩
   | s u h1 h2 h3 h4 h5 h6=>exact⟨_,_,rfl⟩
 ·obtain⟨b,bo,cap,o,h1,h2,h3,h4⟩:=zC hr;exact⟨_,_,h4⟩
theorem SQ {b:Builtin}{yg:Array TypeId}{args:Array Operand}(bA:∀ f g,cx.gid f=some g->σ g=some f)(hc:aY P cx aL ⟨dst,.call {callee:=.builtin b,args:=args,argTypes:=yg},type,pos,after,guard⟩=some k)
  (hk:runK E rec draw st env k=some (v,st')) (hdt:k.loud draw=true->jm st.base.length st' wd) (hS:fQ σ β I Wr wd w st) (hA:bX P E cx σ β I w st env aL ρ args.toList) :
  Yields P ⟨dst,.call {callee:=.builtin b,args:=args,argTypes:=yg},type,pos,after,guard⟩ ρ w (g_ mn σ β I Wr wd w st st' v):=by
 simp only[aY]at hc;split at hc
 ·rename_i t x e1 e2;have h1:yg=#[t]:=by apply Q40;simpa using e1
  have h2:args=#[x]:=by apply Q40;simpa using e2
  subst h1;subst h2;split at hc
  ·rename_i e ht;simp at hc;obtain⟨a,ha,hke⟩:=hc;subst hke;simp only[runK]at hk;have hr:=fun f hf=>hA _ x a f aC ha hf
   split at hk<;>simp only[Qe0,Qm0,reduceCtorEq]at hk
   ·rename_i sz hp;obtain⟨rfl,rfl⟩:=hk;obtain⟨aa,c,hx⟩:=l_ (P:=P) (r:=0) (hr _ hp) (.inl ⟨_,rfl,rfl⟩);exact tZ ht hx hS
   ·rename_i sz es hp;obtain⟨rfl,rfl⟩:=hk;obtain⟨aa,c,hx⟩:=l_ (P:=P) (r:=es.length) (hr _ hp) (.inr (.inl ⟨_,_,rfl,rfl⟩));exact tZ ht hx hS
   ·rename_i q av sz off n hp;obtain⟨rfl,rfl⟩:=hk;obtain⟨aa,c,hx⟩:=l_ (P:=P) (r:=n) (hr _ hp) (.inr (.inr ⟨_,_,_,_,rfl⟩));exact tZ ht hx hS
  ·rename_i ht;simp at hc;obtain⟨a,ha,hke⟩:=hc;subst hke;simp only[runK]at hk;split at hk<;>simp only[Qe0,Qm0,reduceCtorEq]at hk;rename_i s hp;obtain⟨rfl,rfl⟩:=hk;exact IU ht (hA _ x a _ aC ha hp).val hS
  ·simp at hc
 ·rename_i t x e1 e2;have h1:yg=#[t]:=by apply Q40;simpa using e1
  have h2:args=#[x]:=by apply Q40;simpa using e2
  subst h1;subst h2;split at hc
  ·rename_i e ht;simp at hc;obtain⟨a,ha,hke⟩:=hc;subst hke;simp only[runK]at hk;split at hk<;>simp only[Qe0,Qm0,reduceCtorEq]at hk;rename_i sz hp;obtain⟨rfl,rfl⟩:=hk;exact SE ht (hA _ x a _ aC ha hp) hS
  ·simp at hc
 ·rename_i t x e1 e2;have h1:yg=#[t]:=by apply Q40;simpa using e1
  have h2:args=#[x]:=by apply Q40;simpa using e2
  subst h1;subst h2;split at hc
  ·rename_i e ht;split at hc
   ·rename_i m g z a hm hg hz ha;split at hc<;>simp at hc;subst hc;rename_i hh;simp only[not_or]at hh;obtain⟨h0,hzl,hgg⟩:=hh;simp only[runK]at hk;split at hk
    ·rename_i fE hp;split at hk<;>simp only[Qe0,Qm0,reduceCtorEq]at hk;obtain⟨rfl,rfl⟩:=hk;obtain⟨aa,c,hx⟩:=l_ (P:=P) (r:=0) (hA _ x a _ aC ha hp) (.inl ⟨_,rfl,rfl⟩);exact yn (f:=.u) ht hx hS
    ·rename_i q av fE off n hp;split at hk
     ·rename_i hn0;subst hn0;simp only[Qe0,Qm0]at hk;obtain⟨rfl,rfl⟩:=hk;obtain⟨aa,c,hx⟩:=l_ (P:=P) (r:=0) (hA _ x a _ aC ha hp) (.inr (.inr ⟨_,_,_,_,rfl⟩));exact yn (f:=.u) ht hx hS
     ·rename_i hn0;split at hk
      ·rename_i jO Yf es hrow;split at hk<;>simp only[Qe0,Qm0,reduceCtorEq]at hk;obtain⟨rfl,rfl⟩:=hk;rename_i hg2;obtain⟨rfl,rfl,rfl,g1⟩:=hg2;exact abX bA ht hm hz (by simpa using hzl) hgg ae hrow g1 (hdt rfl) hS (hA _ x a _ aC ha hp)
      ·simp at hk
    ·simp at hk
   ·simp at hc
  ·simp at hc
 ·rename_i t u x y e1 e2;have h1:yg=#[t,u]:=by apply Q40;simpa using e1
  have h2:args=#[x,y]:=by apply Q40;simpa using e2
  subst h1;subst h2;split at hc<;>simp at hc;subst hc;rename_i a b' _ ha hb;simp only[runK]at hk;split at hk<;>simp at hk;obtain⟨rfl,rfl⟩:=hk;rename_i hp hq;exact afs hS (hA _ x a _ aC ha hp).val (hA _ y b' _ aC hb hq).val
 ·rename_i t u x y e1 e2;have h1:yg=#[t,u]:=by apply Q40;simpa using e1
  have h2:args=#[x,y]:=by apply Q40;simpa using e2
  subst h1;subst h2;split at hc<;>simp at hc;subst hc;rename_i a b' _ ha hb;simp only[runK]at hk;split at hk<;>simp at hk;obtain⟨rfl,rfl⟩:=hk;rename_i hp hq;exact aft hS (hA _ x a _ aC ha hp).val (hA _ y b' _ aC hb hq).val
 ·rename_i t u x y e1 e2;have h1:yg=#[t,u]:=by apply Q40;simpa using e1
  have h2:args=#[x,y]:=by apply Q40;simpa using e2
  subst h1;subst h2;split at hc
  ·rename_i e k0 ht hu;split at hc
   ·rename_i m bb g z a a' hm hb hg hz ha ha';split at hc<;>simp at hc;subst hc;rename_i hh;simp only[not_or]at hh;obtain⟨h0,hzl,hgg⟩:=hh;simp only[runK]at hk;split at hk
    ·rename_i fE kk l hp hq;split at hk<;>simp only[Qe0,Qm0,reduceCtorEq]at hk;obtain⟨rfl,rfl⟩:=hk;rename_i hc2;obtain⟨rfl,c1,c2,c3⟩:=hc2;exact afp bA ht hu hm hb hz ae (by simpa using hzl) hgg c1 c2 c3 hS (hA _ x a _ aC ha hp) (hA _ y a' _ aC ha' hq)
    ·simp at hk
   ·simp at hc
  ·rename_i e e' ht hu;split at hc
   ·split at hc
    ·rename_i m bb z a a' hm hb hz ha ha';split at hc<;>simp at hc;subst hc;rename_i hh;simp only[not_or]at hh;obtain⟨h0,hzl⟩:=hh;simp only[runK]at hk;split at hk
     ·rename_i fx fy hp hq;split at hk
      ·simp at hk
      ·rename_i ys hys;split at hk
       ·rename_i fE;split at hk
        ·rename_i hg;obtain⟨rfl,g1,g2⟩:=hg;have hy:=SB (mn:=mn) (dst:=dst) (type:=type) (pos:=pos) (after:=after) (guard:=guard) (t:=t) (u:=u) bA ht hu hm hb hz (by simpa using hzl) ae hys g1 g2 hS (hA _ x a _ aC ha hp) (hA _ y a' _ aC ha' hq);split at hk<;>simp at hk
         ·obtain⟨rfl,rfl⟩:=hk;rename_i hemp;rw[if_pos hemp]at hy;exact hy
         ·obtain⟨rfl,rfl⟩:=hk;rename_i hemp;rw[if_neg hemp]at hy;exact hy
        ·simp at hk
       ·rename_i q av fE off n;split at hk
        ·rename_i jO Yf es hrow;split at hk<;>simp at hk;obtain⟨rfl,rfl⟩:=hk;rename_i hg;obtain⟨rfl,rfl,rfl,g1,g2,g3⟩:=hg;exact Yn bA ht hu hm hb hz (by simpa using hzl) hrow g1 hys g2 g3 (hdt (by cases a<;>first|rfl|(simp[dw]at hp))) hS (hA _ x a _ aC ha hp) (hA _ y a' _ aC ha' hq)
        ·simp at hk
       ·simp at hk
     ·simp at hk
    ·simp at hc
   ·simp at hc
  ·simp at hc
 ·simp at hc
theorem ab_ {t:TypeId}{r:Option Operand}(hc:aY P cx aL ⟨dst,.makeMap t r,type,pos,after,guard⟩=some k)(hk:runK E rec draw st env k=some (v,st'))(hS:fQ σ β I Wr wd w st) :
  Yields P ⟨dst,.makeMap t r,type,pos,after,guard⟩ ρ w (g_ mn σ β I Wr wd w st st' v):=by
 cases r with
 | some r=>simp[aY]at hc
 | none =>
  simp only[aY]at hc;split at hc<;>simp at hc;subst hc;simp only[runK,Qe0,Qm0]at hk;obtain⟨rfl,rfl⟩:=hk;exact ab0 hS
theorem afy {t:TypeId}{x ix:Operand}{ok:Bool}(bA:∀ f g,cx.gid f=some g->σ g=some f)(hc:aY P cx aL ⟨dst,.lookup t x ix ok,type,pos,after,guard⟩=some k)(hk:runK E rec draw st env k=some (v,st'))(hS:fQ σ β I Wr wd w st)
  (hA:bX P E cx σ β I w st env aL ρ [x,ix]):Yields P ⟨dst,.lookup t x ix ok,type,pos,after,guard⟩ ρ w (g_ mn σ β I Wr wd w st st' v):=by
 simp only[aY]at hc;split at hc
 ·rename_i kt e ht;split at hc<;>simp at hc;subst hc;rename_i a b z kind ha hb hz hT;simp only[runK]at hk;split at hk
  ·rename_i q kd hq hkd;split at hk
   ·rename_i hok;split at hk
    ·rename_i es hes;have hx:=hA _ x a _ aC ha hq;have hi:=hA _ ix b _ aC hb hkd;split at hk
     ·rename_i y hy;cases hk;exact Yr bA ht hT hz hok hes hy hS hx hi
     ·rename_i hy;cases hk;exact Yr bA ht hT hz hok hes hy hS hx hi
     ·cases hk
    ·cases hk
   ·cases hk
  ·cases hk
 ·cases hc
theorem afz {t:TypeId}{m ix x:Operand}(hc:aY P cx aL ⟨dst,.mapUpdate t m ix x,type,pos,after,guard⟩=some k)(hk:runK E rec draw st env k=some (v,st'))(hdt:k.loud draw=true->jm st.base.length st' wd)(hS:fQ σ β I Wr wd w st)
  (hA:bX P E cx σ β I w st env aL ρ [m,ix,x]):Yields P ⟨dst,.mapUpdate t m ix x,type,pos,after,guard⟩ ρ w (g_ mn σ β I Wr wd w st st' v):=by
 simp only[aY]at hc;split at hc
 ·rename_i kt e ht;split at hc<;>simp at hc;subst hc;rename_i a b c kind ha hb hcc hT;have hd:=hdt rfl;simp only[runK]at hk;split at hk
  ·rename_i q kd u hq hkd hu;split at hk
   ·rename_i hok;split at hk
    ·rename_i es hes;split at hk
     ·rename_i es' hy;cases hk;exact afu ht hT hok hes hy hd hS (hA _ m a _ aC ha hq) (hA _ ix b _ aC hb hkd) (hA _ x c _ aC hcc hu)
     ·cases hk
    ·cases hk
   ·cases hk
  ·cases hk
 ·cases hc
end step
end
section
theorem fI (n:Nat):∀ l:List FV,FV.aP n l=l.map (FV.az n)
 | []=>by rw[FV.aP];rfl
 | x::l=>by rw[FV.aP,fI n l];rfl
theorem qi (m:Nat):∀ l:List FV,FV.gD m l=l.map (FV.shift m)
 | []=>by rw[FV.gD];rfl
 | x::l=>by rw[FV.gD,qi m l];rfl
section trans
variable {σ:Nat->Option FuncId} {β:Map} {I:Nat->Prop} {w:World} {n:Nat}
theorem aI.az {v:FV}{x:Value}(h:aI σ β I w n v x)(n':Nat):aI σ β I w n' (v.az n) x:=by
 induction h with
 | u x=>simp only[FV.az];exact .u x
 | d h=>simp only[FV.az];exact .d h
 | r h =>
  rename_i p off b bo cap;cases p<;>simp only[FV.az]<;>exact .r (p:=.old _) h
 | e h =>
  rename_i p av sz i off b bo cap;cases p<;>simp only[FV.az]<;>exact .e (p:=.old _) h
 | rc hb ho h=>simp only[FV.az];exact .rc hb ho h
 | ls h hl ho =>
  rename_i p av sz off len b bo cap o;cases p<;>simp only[FV.az]<;>exact .ls (p:=.old _) h hl ho
 | m h =>
  rename_i p b bo cap;cases p<;>simp only[FV.az]<;>exact .m (p:=.old _) h
 | z=>simp only[FV.az];exact .z
 | f h h1 h2 _ _ ih1 ih2 =>
  simp only[FV.az,fI];refine .f h (by simpa using h1) (by simpa using h2) (fun i c x hc hx => ?_) (fun i c x hc hx => ?_)
  ·simp only[Qb1,Qf1]at hc;obtain⟨d,hd,rfl⟩:=hc;exact ih1 i d x hd hx
  ·simp only[Qb1,Qf1]at hc;obtain⟨d,hd,rfl⟩:=hc;exact ih2 i d x hd hx
 | a hl _ ih =>
  simp only[FV.az,fI];refine .a (by simpa using hl) (fun i c x hc hx => ?_);simp only[Qb1,Qf1]at hc;obtain⟨d,hd,rfl⟩:=hc;exact ih i d x hd hx
 | t hl _ ih =>
  simp only[FV.az,fI];refine .t (by simpa using hl) (fun i c x hc hx => ?_);simp only[Qb1,Qf1]at hc;obtain⟨d,hd,rfl⟩:=hc;exact ih i d x hd hx
theorem aI.shift {v:FV}{x:Value}(h:aI σ β I w 0 v x){β':Map}{n m:Nat}(hβ:∀ i av y,β i av=some y->β' (n+(m+i)) av=some y):aI σ β' I w n (v.shift m) x:=by
 generalize hz:0=z at h
 induction h with
 | u x=>simp only[FV.shift];exact .u x
 | d h=>simp only[FV.shift];exact .d h
 | r h =>
  subst hz;rename_i p off b bo cap;cases p<;>simp only[FV.shift]<;>exact .r (p:=.loc _) (hβ _ _ _ (by simpa[Ref.abs] using h))
 | e h =>
  subst hz;rename_i p av sz i off b bo cap;cases p<;>simp only[FV.shift]<;>exact .e (p:=.loc _) (hβ _ _ _ (by simpa[Ref.abs] using h))
 | rc hb ho h=>simp only[FV.shift];exact .rc hb ho h
 | ls h hl ho =>
  subst hz;rename_i p av sz off len b bo cap o;cases p<;>simp only[FV.shift]<;>exact .ls (p:=.loc _) (hβ _ _ _ (by simpa[Ref.abs] using h)) hl ho
 | m h =>
  subst hz;rename_i p b bo cap;cases p<;>simp only[FV.shift]<;>exact .m (p:=.loc _) (hβ _ _ _ (by simpa[Ref.abs] using h))
 | z=>simp only[FV.shift];exact .z
 | f h h1 h2 _ _ ih1 ih2 =>
  simp only[FV.shift,qi];refine .f h (by simpa using h1) (by simpa using h2) (fun i c x hc hx => ?_) (fun i c x hc hx => ?_)
  ·simp only[Qb1,Qf1]at hc;obtain⟨d,hd,rfl⟩:=hc;exact ih1 i d x hd hx
  ·simp only[Qb1,Qf1]at hc;obtain⟨d,hd,rfl⟩:=hc;exact ih2 i d x hd hx
 | a hl _ ih =>
  simp only[FV.shift,qi];refine .a (by simpa using hl) (fun i c x hc hx => ?_);simp only[Qb1,Qf1]at hc;obtain⟨d,hd,rfl⟩:=hc;exact ih i d x hd hx
 | t hl _ ih =>
  simp only[FV.shift,qi];refine .t (by simpa using hl) (fun i c x hc hx => ?_);simp only[Qb1,Qf1]at hc;obtain⟨d,hd,rfl⟩:=hc;exact ih i d x hd hx
end trans
section qR
variable {σ:Nat->Option FuncId} {β:Map} {I Wr:Nat->Prop} {wd:Nat->Prop} {w:World} {n:Nat} {H:List ah}
theorem bf.afA (h:bf σ n β I Wr wd H w){I':Nat->Prop}(hm:∀ b,I b->I' b)(hlt:∀ b,I' b->b<w.heap.size)(hn:∀ (k:Nat) (o:ah) b bo cap,H[k]?=some o->o.live β k=some (b,bo,cap)->¬ I' b) :
  bf σ n β I' Wr wd H w:=by
 refine⟨hlt,h.blt,h.kG,h.dom,h.mO,fun k o b bo cap h1 h2=>⟨(h.wr k o b bo cap h1 h2).1,hn k o b bo cap h1 h2⟩,?_,?_,?_,h.inj,?_⟩
 ·intro k cs b bo cap h1 h2;obtain⟨a0,c,e',a1,a2,a3⟩:=h.box k cs b bo cap h1 h2;exact⟨a0,c,e',a1,a2,fun j f x e1 e2=>(a3 j f x e1 e2).mono (fun _ _ _ h=>h) hm (fun _ _=>rfl)⟩
 ·intro k av fE es b bo cap h1 h2;obtain⟨a0,c,e',a1,a2⟩:=h.row k av fE es b bo cap h1 h2;exact⟨a0.mono hm (fun _ _=>rfl) rfl,c,e',a1,a2⟩
 ·intro k av fE es b bo cap h1 h2;obtain⟨a0,a1⟩:=h.h_ k av fE es b bo cap h1 h2;exact⟨a0.mono hm (fun _ _=>rfl) rfl,hm _ a1⟩
 ·intro k es b bo cap h1 h2;obtain⟨ms,clock,a1,a2⟩:=h.map k es b bo cap h1 h2;exact⟨ms,clock,a1,a2.mono hm (fun _ _=>rfl)⟩
theorem bf.ag7 (h:bf σ n β I Wr wd H w){n':Nat}{Wr':Nat->Prop}{wd':Nat->Prop}(hnew:∀ b,w.heap.size<=b->Wr' b)
  (hw:∀ (k:Nat) (o:ah) b bo cap,H[k]?=some o->o.live β k=some (b,bo,cap)->wd' k->Wr' b)
  (SS:∀ (k:Nat) cs b bo cap,H[k]?=some (.box cs)->β k 0=some (b,bo,cap)->∀ (j:Nat) (f:FV) (x:Value),cs[j]?=some f->aI σ β I w n f x->aI σ β I w n' f x):bf σ n' β I Wr' wd' H w:=by
 refine⟨h.mf,h.blt,hnew,h.dom,h.mO,fun k o b bo cap h1 h2=>⟨hw k o b bo cap h1 h2,(h.wr k o b bo cap h1 h2).2⟩,?_,h.row,h.h_,h.inj,h.map⟩;intro k cs b bo cap h1 h2;obtain⟨a0,c,e',a1,a2,a3⟩:=h.box k cs b bo cap h1 h2;exact⟨a0,c,e',a1,a2,fun j f x e1 e2=>SS k cs b bo cap h1 h2 j f x e1 (a3 j f x e1 e2)⟩
theorem bf.aca (h:bf σ n β I Wr wd H w){k av sz:Nat}{es:List D}(hk:H[k]?=some (.row av sz es)) :
  bf σ n β (fun b=>I b\/∃ bo cap,β k av=some (b,bo,cap)) Wr wd (H.set k (.h_ av sz es)) w:=by
 have hkl:k<H.length:=(aT hk)
 have hm:∀ b,I b->(I b\/∃ bo cap,β k av=some (b,bo,cap)):=fun b hb=>.inl hb
 have hget:∀ (k1:Nat) (o1:ah),(H.set k (.h_ av sz es))[k1]?=some o1->(k1≠k/\H[k1]?=some o1)\/(k1=k/\o1=.h_ av sz es):=by
  intro k1 o1 h1
  by_cases hc:k1=k
  ·subst hc;rw[Qd1 hkl]at h1;exact .inr ⟨rfl,by simpa using h1.symm⟩
  ·rw[Qb2 (Ne.symm hc)]at h1;exact .inl ⟨hc,h1⟩
 refine⟨?_,h.blt,h.kG,?_,?_,?_,?_,?_,?_,?_,?_⟩
 ·rintro b (hb|⟨bo,cap,hb⟩)
  ·exact h.mf b hb
  ·exact h.blt _ _ _ _ _ hb
 ·intro k1 v x hx;rw[Xg0];exact h.dom k1 v x hx
 ·intro k1 acb sz1 es1 v x h1 h2;rcases hget k1 _ h1 with ⟨_,h3⟩|⟨rfl,h3⟩
  ·exact h.mO _ _ _ _ _ _ h3 h2
  ·cases h3
 ·intro k1 o b bo cap h1 h2;rcases hget k1 _ h1 with ⟨hc,h3⟩|⟨rfl,rfl⟩
  ·obtain⟨a1,a2⟩:=h.wr k1 o b bo cap h3 h2;refine⟨a1,?_⟩;rintro(hb|⟨wF,cap',hb⟩)
   ·exact a2 hb
   ·exact hc (h.inj k1 k o (.row av sz es) b bo cap wF cap' h3 hk h2 hb)
  ·cases h2
 ·intro k1 cs b bo cap h1 h2;rcases hget k1 _ h1 with ⟨_,h3⟩|⟨rfl,h3⟩
  ·obtain⟨a0,c,e',a1,a2,a3⟩:=h.box k1 cs b bo cap h3 h2;exact⟨a0,c,e',a1,a2,fun j f x e1 e2=>(a3 j f x e1 e2).mono (fun _ _ _ h=>h) hm (fun _ _=>rfl)⟩
  ·cases h3
 ·intro k1 acb sz1 es1 b bo cap h1 h2;rcases hget k1 _ h1 with ⟨_,h3⟩|⟨rfl,h3⟩
  ·obtain⟨a0,c,e',a1,a2⟩:=h.row k1 acb sz1 es1 b bo cap h3 h2;exact⟨a0.mono hm (fun _ _=>rfl) rfl,c,e',a1,a2⟩
  ·cases h3
 ·intro k1 acb sz1 es1 b bo cap h1 h2;rcases hget k1 _ h1 with ⟨_,h3⟩|⟨rfl,h3⟩
  ·obtain⟨a0,a1⟩:=h.h_ k1 acb sz1 es1 b bo cap h3 h2;exact⟨a0.mono hm (fun _ _=>rfl) rfl,hm _ a1⟩
  ·cases h3;obtain⟨a0,_⟩:=h.row k1 av sz es b bo cap hk h2;exact⟨a0.mono hm (fun _ _=>rfl) rfl,.inr ⟨bo,cap,h2⟩⟩
 ·intro k1 k2 o1 o2 b bo cap wF cap' h1 h2 h3 h4;rcases hget k1 _ h1 with ⟨_,h5⟩|⟨rfl,rfl⟩
  ·rcases hget k2 _ h2 with ⟨_,h6⟩|⟨rfl,rfl⟩
   ·exact h.inj k1 k2 o1 o2 b bo cap wF cap' h5 h6 h3 h4
   ·cases h4
  ·cases h3
 ·intro k1 es b bo cap h1 h2;rcases hget k1 _ h1 with ⟨_,h3⟩|⟨rfl,h3⟩
  ·obtain⟨ms,clock,a1,a2⟩:=h.map k1 es b bo cap h3 h2;exact⟨ms,clock,a1,a2.mono hm (fun _ _=>rfl)⟩
  ·cases h3
end qR
section freeze
variable {σ:Nat->Option FuncId} {β:Map} {Wr:Nat->Prop} {wd:Nat->Prop} {w:World}
structure EB (σ:Nat->Option FuncId)(β:Map)(I I' Wr:Nat->Prop)(wd:Nat->Prop)(st st':St)(w:World)(rs:List Ref):Prop where
 qR:bf σ st.base.length β I' Wr wd (st'.base++st'.loc) w
 im:∀ b,I b->I' b
 base:st'.base.length=st.base.length
 len:st'.loc.length=st.loc.length
 iH:∀ b,I' b->I b\/∃ k o bo cap,(st.base++st.loc)[k]?=some o/\o.live β k=some (b,bo,cap)/\(st'.aX=true\/st.base.length<=k)
 keep:∀ (k:Nat) (o:ah),(st.base++st.loc)[k]?=some o->(st'.base++st'.loc)[k]?=some o\/∃ av sz es,o=.row av sz es/\(st'.base++st'.loc)[k]?=some (.h_ av sz es)
 back:∀ (k:Nat) (o:ah),(st'.base++st'.loc)[k]?=some o->(st.base++st.loc)[k]?=some o\/∃ av sz es,o=.h_ av sz es/\(st.base++st.loc)[k]?=some (.row av sz es)
 all:∀ p ∈ rs,∀ av sz es,(st.base++st.loc)[p.abs st.base.length]?=some (.row av sz es)->(st'.base++st'.loc)[p.abs st.base.length]?=some (.h_ av sz es)
theorem iY:∀ (rs:List Ref) {I:Nat->Prop} {st:St},fQ σ β I Wr wd w st->∃ I',EB σ β I I' Wr wd st (aK st rs) w rs
 | [],I,st,h=>⟨I,h,fun _ h=>h,rfl,rfl,fun _ h=>.inl h,fun _ _ h=>.inl h,fun _ _ h=>.inl h,fun p hp=>by simp at hp⟩
 | p::rs,I,st,h=>by
  simp only[aK];split
  ·rename_i av sz es hp;rw[St.fP]at hp;have h1:=h.aca hp;have hb:=St.kr st p (.h_ av sz es);rw[<-St.dJ,<-hb]at h1;obtain⟨I',f⟩:=iY rs h1;have hset:=St.dJ st p (.h_ av sz es);have hkl:=(aT hp)
   have hget:∀ (k:Nat),(((st.bq p (.h_ av sz es)).base++(st.bq p (.h_ av sz es)).loc))[k]?=if k=p.abs st.base.length then some (.h_ av sz es) else(st.base++st.loc)[k]?:=by
    intro k;rw[hset]
    by_cases hk:k=p.abs st.base.length
    ·rw[if_pos hk,hk,Qd1 hkl]
    ·rw[if_neg hk,Qb2 (Ne.symm hk)]
   refine⟨I',by rw[<-hb];exact f.qR,fun b hb=>f.im b (.inl hb),f.base.trans hb,f.len.trans (oH _ _ _),?_,?_,?_,?_⟩
   ·intro b hI';rcases f.iH b hI' with (hI|⟨bo,cap,hβ⟩)|⟨k,o,bo,cap,g1,g2,g3⟩
    ·exact .inl hI
    ·rw[hb]at hβ;refine .inr ⟨_,_,bo,cap,hp,hβ,?_⟩;cases p with
     | loc i=>exact .inr (Nat.le_add_right _ _)
     | old i=>exact .inl ((Kept.aK rs _).aX rfl)
    ·rw[hget]at g1;split at g1
     ·cases g1;cases g2
     ·exact .inr ⟨k,o,bo,cap,g1,g2,by rw[hb]at g3;exact g3⟩
   ·intro k o hk
    by_cases hkp:k=p.abs st.base.length
    ·subst hkp;rw[hp]at hk;cases hk;have:=f.keep (p.abs st.base.length) (.h_ av sz es) (by rw[hget,if_pos rfl]);rcases this with h|⟨_,_,_,h,_⟩
     ·exact .inr ⟨av,sz,es,rfl,h⟩
     ·cases h
    ·exact f.keep k o (by rw[hget,if_neg hkp];exact hk)
   ·intro k o hk;rcases f.back k o hk with h2|⟨jO,fE,es',h2,h3⟩
    ·rw[hget]at h2;split at h2
     ·rename_i hkp;cases h2;exact .inr ⟨av,sz,es,rfl,by rw[hkp];exact hp⟩
     ·exact .inl h2
    ·rw[hget]at h3;split at h3
     ·cases h3
     ·exact .inr ⟨jO,fE,es',h2,h3⟩
   ·intro q hq jO fE es' hrow
    by_cases SV:q.abs st.base.length=p.abs st.base.length
    ·rw[SV,hp]at hrow;cases hrow;have:=f.keep (p.abs st.base.length) (.h_ av sz es) (by rw[hget,if_pos rfl]);rw[SV];rcases this with h|⟨_,_,_,h,_⟩
     ·exact h
     ·cases h
    ·rcases Qi1.1 hq with rfl|hq
     ·exact absurd rfl SV
     ·have:=f.all q hq jO fE es' (by rw[hb,hget,if_neg SV];exact hrow);rw[hb]at this;exact this
  ·rename_i hne;obtain⟨I',f⟩:=iY rs h;refine⟨I',f.qR,f.im,f.base,f.len,f.iH,f.keep,f.back,?_⟩;intro q hq av sz es hrow;rcases Qi1.1 hq with rfl|hq
   ·exact absurd (by rw[St.fP];exact hrow) (hne av sz es)
   ·exact f.all q hq av sz es hrow
end freeze
end
section
variable {mn:Prop}
section leave
variable {σ:Nat->Option FuncId} {β:Map} {I I' Wr:Nat->Prop} {wd:Nat->Prop} {w:World} {st st':St}
theorem Ii {p:Ref}{av sz off len:Nat}{x:Value}{es:List D}(hS:fQ σ β I Wr wd w st)
  (hp:st.heap p=some (.row av sz es)\/st.heap p=some (.h_ av sz es)) (hle:off+len<=es.length) (hr:aI σ β I w st.base.length (.ls p av sz off len) x)
  (hm:∀ b,I b->I' b) (hI:∀ b bo cap,β (p.abs st.base.length) av=some (b,bo,cap)->I' b):bE σ I' w (.s sz ((es.drop off).take len)) x:=by
 obtain⟨b,bo,cap,o,hβ,hlc,Jg,rfl⟩:=zC hr;have hat:jk σ I w b bo cap sz es:=by
  rw[St.fP]at hp;rcases hp with hp|hp
  ·exact(hS.row _ _ _ _ _ _ _ hp hβ).1
  ·exact(hS.h_ _ _ _ _ _ _ _ hp hβ).1
 have hb:=hI b bo cap hβ;have hlen:((es.drop off).take len).length=len:=by simp;omega
 by_cases hoc:off<cap
 ·have ho:=Jg hoc;have hrep:∀ (i:Nat) (e:D) (j:Nat) (c:D),((es.drop off).take len)[i]?=some e->e.cells[j]?=some c->∃ y,w.cell? ⟨b,o+i*sz+j,none⟩=some y/\bE σ I' w c y:=by
   intro i e j c he hc;rw[Qp0]at he;split at he
   ·rw[Qx2]at he;obtain⟨y,h1,h2⟩:=hat.at_ _ e he j c hc;refine⟨y,?_,h2.mono hm (fun _ _=>rfl)⟩;rw[ho,show bo+off*sz+i*sz+j=bo+(off+i)*sz+j by rw[Qq1];omega];exact h1
   ·cases he
  have:=bE.s (σ:=σ) (I:=I') (w:=w) (sz:=sz) (es:=(es.drop off).take len) (b:=b) (off:=o) (cap:=cap-off) (fun i j=>(w.cell? ⟨b,o+i*sz+j,none⟩).getD undef) hb ae
   (fun e he=>hat.wide e (Q32 (Qn1 he))) (fun e he=>hat.one e (Q32 (Qn1 he)))
   (fun i e j c he hc=>by obtain⟨y,h1,_⟩:=hrep i e j c he hc;simp only[h1,Q12])
   (fun i e j c he hc=>by obtain⟨y,h1,h2⟩:=hrep i e j c he hc;simp only[h1,Q12];exact h2)
  rw[hlen]at this;exact this
 ·have h0:len=0:=ae;subst h0;have:=bE.s (σ:=σ) (I:=I') (w:=w) (sz:=sz) (es:=[]) (b:=b) (off:=o) (cap:=cap-off) (fun _ _=>undef) hb aC aC aC (fun i e j c he=>by simp at he) (fun i e j c he=>by simp at he);simpa using this
def RowsIn (β:Map)(I':Nat->Prop)(st:St)(rs:List Ref):Prop :=
 ∀ p ∈ rs,∀ av sz es b bo cap,(st.heap p=some (.row av sz es)\/st.heap p=some (.h_ av sz es))->β (p.abs st.base.length) av=some (b,bo,cap)->I' b
theorem AR {v v':FV}{x:Value}(hS:fQ σ β I Wr wd w st)(h:leave1 st v=some v')(hr:aI σ β I w st.base.length v x)(hm:∀ b,I b->I' b)(hI:RowsIn β I' st v.om) :
  aI σ β I' w st.base.length v' x:=by
 unfold leave1 at h;split at h
 ·cases h;cases hr with|d hr=>exact .d (hr.di.mono hm (fun _ _=>rfl))
 ·cases h;cases hr with|z=>exact .d (.s1 _ _ _)
 ·rename_i p av sz off len;split at h<;>simp at h;subst h;rename_i es hes;simp only[elems,if_true]at hes;split at hes
  ·rename_i o ho;unfold ah.view at hes;split at hes
   ·split at hes<;>simp at hes;rename_i hh;obtain⟨rfl,rfl,hle⟩:=hh;subst hes;exact .d (Ii hS (.inl ho) hle hr hm (fun b bo cap hβ=>hI p (by simp[FV.om]) _ _ _ b bo cap (.inl ho) hβ))
   ·split at hes<;>simp at hes;rename_i hh;obtain⟨rfl,rfl,hle⟩:=hh;subst hes;exact .d (Ii hS (.inr ho) hle hr hm (fun b bo cap hβ=>hI p (by simp[FV.om]) _ _ _ b bo cap (.inr ho) hβ))
   ·simp at hes
  ·simp at hes
 ·cases h;exact hr.mono (fun _ _ _ h=>h) hm (fun _ _=>rfl)
theorem AU:∀ {vs vs':List FV} {xs:List Value} (_:fQ σ β I Wr wd w st) (_:yL st vs=some vs') (_:gW σ β I w st.base.length vs xs) (_:∀ b,I b->I' b)
  (_:RowsIn β I' st (vs.flatMap FV.om)),gW σ β I' w st.base.length vs' xs
 | [],vs',xs,hS,h,hr,hm,hI=>by
  simp[yL]at h;subst h;exact⟨hr.1,fun i c x hc=>by simp at hc⟩
 | v::vs,vs',xs,hS,h,hr,hm,hI=>by
  simp only[yL]at h;split at h<;>simp at h;subst h;rename_i y s h1 h2
  match xs,hr with
  | [],hr=>exact absurd hr.1 aC
  | x::xs,hr =>
   have r1:=AR hS h1 (hr.2 0 v x rfl rfl) hm (fun p hp=>hI p (by simp[hp]));have r2:=AU (xs:=xs) hS h2 ⟨by simpa using hr.1,fun i c x hc hx=>hr.2 (i+1) c x (by simpa using hc) (by simpa using hx)⟩ hm (fun p hp=>hI p (by
    simp only[Xc2,Qw0];exact .inr hp))
   refine⟨by simp[r2.1],fun i c z hc hz => ?_⟩;cases i with
   | zero=>simp at hc hz;subst hc;subst hz;exact r1
   | succ i=>exact r2.2 i c z (by simpa using hc) (by simpa using hz)
theorem Lr {v v':FV}{x:Value}(hS:fQ σ β I Wr wd w st)(h:leaves st v=some v')(hr:aI σ β I w st.base.length v x)(hm:∀ b,I b->I' b)(hI:RowsIn β I' st v.rows) :
  aI σ β I' w st.base.length v' x:=by
 unfold leaves at h;split at h
 ·cases h;cases hr with|d hr=>exact .d (hr.norm.mono hm (fun _ _=>rfl))
 ·split at h<;>simp at h;subst h;rename_i cs ds hds;cases hr with
  | a hl hr =>
   rename_i vs;have:=AU (xs:=vs.toList) hS hds ⟨by simpa using hl,fun i c x hc hx=>hr i c x hc (by simpa using hx)⟩ hm hI;exact aI.Qr (by simpa using this.1) (fun i c x hc hx=>this.2 i c x hc (by simpa using hx))
 ·rename_i h1 h2;refine AR hS h hr hm ?_;have:v.om=v.rows\/v.om=[]:=by
   cases v<;>first|exact .inl rfl|exact .inr rfl
  rcases this with e|e
  ·rw[e];exact hI
  ·rw[e];intro p hp;simp at hp
theorem gY:∀ {vs vs':List FV} {xs:List Value} (_:fQ σ β I Wr wd w st) (_:gN st vs=some vs') (_:gW σ β I w st.base.length vs xs) (_:∀ b,I b->I' b)
  (_:RowsIn β I' st (vs.flatMap FV.rows)),gW σ β I' w st.base.length vs' xs
 | [],vs',xs,hS,h,hr,hm,hI=>by
  simp[gN]at h;subst h;exact⟨hr.1,fun i c x hc=>by simp at hc⟩
 | v::vs,vs',xs,hS,h,hr,hm,hI=>by
  simp only[gN]at h;split at h<;>simp at h;subst h;rename_i y s h1 h2
  match xs,hr with
  | [],hr=>exact absurd hr.1 aC
  | x::xs,hr =>
   have r1:=Lr hS h1 (hr.2 0 v x rfl rfl) hm (fun p hp=>hI p (by simp[hp]));have r2:=gY (xs:=xs) hS h2 ⟨by simpa using hr.1,fun i c x hc hx=>hr.2 (i+1) c x (by simpa using hc) (by simpa using hx)⟩ hm (fun p hp=>hI p (by
    simp only[Xc2,Qw0];exact .inr hp))
   refine⟨by simp[r2.1],fun i c z hc hz => ?_⟩;cases i with
   | zero=>simp at hc hz;subst hc;subst hz;exact r1
   | succ i=>exact r2.2 i c z (by simpa using hc) (by simpa using hz)
theorem EB.EC {rs:List Ref}(hS:fQ σ β I Wr wd w st)(hf:EB σ β I I' Wr wd st st' w rs):RowsIn β I' st rs:=by
 intro p hp av sz es b bo cap hrow hβ;rw[St.fP]at hrow;rcases hrow with hrow|hrow
 ·have h2:=hf.all p hp av sz es hrow;exact(hf.qR.h_ _ _ _ _ _ _ _ h2 hβ).2
 ·exact hf.im _ (hS.h_ _ _ _ _ _ _ _ hrow hβ).2
end leave
def dX (E:Env)(σ:Nat->Option FuncId)(I:Nat->Prop)(w:World):Prop :=
 ∀ k y,E.eG k=some y->I k/\(∀ c ∈ y.cells,c.one=true)/\AtD σ I w k 0 y.cells/\∃ c e fr,w.heap[k]?=some (.cells c e fr)/\c.size=y.cells.length
theorem dX.mono {E:Env}{σ:Nat->Option FuncId}{I I':Nat->Prop}{w w':World}(h:dX E σ I w)(hi:∀ b,I b->I' b)(hk:∀ b,I b->w'.heap[b]?=w.heap[b]?):dX E σ I' w':=fun k y hy=>by
 obtain⟨h1,h2,h3,c,e,fr,h4,h5⟩:=h k y hy;exact⟨hi _ h1,h2,h3.mono hi hk (hk _ h1),c,e,fr,by rw[hk _ h1];exact h4,h5⟩
structure Grow (mn:Prop)(I I':Nat->Prop)(w w':World):Prop where
 im:∀ b,I b->I' b
 iH:∀ b,I' b->I b\/w.heap.size<=b
 mf:∀ b,I' b->b<w'.heap.size
 size:w.heap.size<=w'.heap.size
 keep:∀ b,b<w.heap.size->w'.heap[b]?=w.heap[b]?
 os:w'.os=w.os
 tape:w'.tape=w.tape
 output:w'.output=w.output
 drawn:mn->w.drawn<=w'.drawn
def iV (P:Program)(E:Env)(σ:Nat->Option FuncId)(g:Nat)(args:List FV)(B:List ah):FV × Option (List ah)->Prop
 | (v,none)=>∀ f,σ g=some f->∀ β I w (bz:Array Value),bf σ B.length β I (fun b=>w.heap.size<=b) (fun k=>B.length<=k) B w->gW σ β I w B.length args bz.toList->dX E σ I w ->
   Calls P f bz w fun e w'=>∃ x y I',e=.returned x/\v=.d y/\bE σ I' w' y x/\Grow E.mn I I' w w'
 | (v,some B')=>∀ f,σ g=some f->∀ β I Wr w (bz:Array Value),bf σ B.length β I Wr (fun _=>True) B w->gW σ β I w B.length args bz.toList->dX E σ I w ->
   Calls P f bz w fun e w'=>∃ x β' I',e=.returned x/\Ext E.mn β β' I I' Wr w w'/\(∀ n' wd',bf σ n' β' I' Wr wd' B' w')/\∀ n',aI σ β' I' w' n' v x
def Given (E:Env)(g:Nat):Prop:=(E.fn g).isSome=true\/(E.jq g).isSome=true\/(E.iO g).isSome=true
def kC (P:Program)(E:Env)(σ:Nat->Option FuncId)(rec:Nat->List FV->List ah->bJ):Prop:=∀ g args B r,rec g args B=some r->Given E g/\iV P E σ g args B r
section call
variable {P:Program} {E:Env} {σ:Nat->Option FuncId} {β:Map} {I Wr:Nat->Prop} {wd:Nat->Prop} {w:World} {st st':St} {rec:Nat->List FV->List ah->bJ} {draw:Bool} {v:FV}
theorem Grow.ext {I':Nat->Prop}{w':World}(h:Grow mn I I' w w')(hw:∀ b,w.heap.size<=b->Wr b)(hi:∀ b,I b->b<w.heap.size)(β:Map):Ext mn β β I I' Wr w w' :=
 ⟨fun _ _ _ h=>h,h.im,fun b hb=>(h.iH b hb).imp id (hw b),h.size,fun b hb=>h.keep b (hi b hb),fun b hb _=>h.keep b hb,h.os,h.tape,h.output,h.drawn⟩
theorem Oy {y:D}{x:Value}(h:scalar (.d y)=true){I0:Nat->Prop}{w0:World}(hr:bE σ I0 w0 y x)(I1:Nat->Prop)(w1:World):bE σ I1 w1 y x:=by
 cases y with
 | v z=>cases hr;exact .v _
 | t vs =>
  cases hr with
  | t hl hr =>
   refine .t hl (fun i c x hc hx => ?_);have hc':c.isV=true:=Qh2.1 h c (Qa2 hc);have:=hr i c x hc hx;cases c with
   | v z=>cases this;exact .v _
   | _=>simp[D.isV]at hc'
 | _=>simp[scalar]at h
theorem ED {rows:List Ref}{I1 I2:Nat->Prop}{w':World}{y:D}{x:Value}(hS:fQ σ β I Wr wd w st)(hf:EB σ β I I1 Wr wd st (aK st rows) w rows)
  (hdt:draw=false->jm st.base.length st' wd) (hr:bE σ I2 w' y x) (hg:Grow mn I1 I2 w w')
  (h:(if scalar (.d y)\/rows=[] then some (FV.d y,st) else if draw then none else some (.d y,aK st rows))=some (v,st')):g_ mn σ β I Wr wd w st st' v x w':=by
 split at h
 ·rename_i hsc;cases h;rcases hsc with hsc|hrows
  ·refine⟨β,I,⟨fun _ _ _ h=>h,fun _ h=>h,fun _ h=>.inl h,hg.size,fun b hb=>hg.keep b (hS.mf b hb),fun b hb _=>hg.keep b hb,hg.os,hg.tape,hg.output,hg.drawn⟩,hS.grow hg.size hg.keep,.d (Oy hsc hr _ _),fun _ _ _ _=>rfl⟩
  ·subst hrows
   -- nothing has been frozen
   have hI1:∀ b,I1 b->I b\/∃ (k:Nat) (o:ah) (bo cap:Nat),(st.base++st.loc)[k]?=some o/\o.live β k=some (b,bo,cap):=fun b hb=>(hf.iH b hb).imp id (fun⟨k,o,bo,cap,h1,h2,_⟩=>⟨k,o,bo,cap,h1,h2⟩)
   have hnot:∀ b,I1 b->I b:=by
    intro b hb;rcases hI1 b hb with h|⟨k,o,bo,cap,h1,h2⟩
    ·exact h
    ·exact absurd hb ((hf.qR.wr k o b bo cap (by simpa[aK] using h1) h2).2)
   refine⟨β,I2,⟨fun _ _ _ h=>h,fun b hb=>hg.im b (hf.im b hb),fun b hb => ?_,hg.size,fun b hb=>hg.keep b (hS.mf b hb),fun b hb _=>hg.keep b hb,hg.os,hg.tape,hg.output,hg.drawn⟩,?_,.d hr,fun _ _ _ _=>rfl⟩
   ·rcases hg.iH b hb with h|h
    ·exact .inl (hnot b h)
    ·exact .inr (hS.kG b h)
   ·refine(hS.grow hg.size hg.keep).afA (fun b hb=>hg.im b (hf.im b hb)) hg.mf (fun k o b bo cap h1 h2 hI2 => ?_);rcases hg.iH b hI2 with h|h
    ·exact(hS.wr k o b bo cap h1 h2).2 (hnot b h)
    ·have:=ky hS h2;omega
 ·split at h
  ·cases h
  ·rename_i hdr;have hdr:draw=false:=by simpa using hdr
   cases h;refine⟨β,I2,⟨fun _ _ _ h=>h,fun b hb=>hg.im b (hf.im b hb),fun b hb => ?_,hg.size,fun b hb=>hg.keep b (hS.mf b hb),fun b hb _=>hg.keep b hb,hg.os,hg.tape,hg.output,hg.drawn⟩,?_,.d hr,fun _ _ _ _=>rfl⟩
   ·rcases hg.iH b hb with h|h
    ·rcases hf.iH b h with h|⟨k,o,bo,cap,h1,h2,h3⟩
     ·exact .inl h
     ·exact .inr ((hS.wr k o b bo cap h1 h2).1 (h3.elim (fun hd=>(hdt hdr).2 hd k) ((hdt hdr).1 k)))
    ·exact .inr (hS.kG b h)
   ·refine(hf.qR.grow hg.size hg.keep).afA hg.im hg.mf (fun k o b bo cap h1 h2 hI2 => ?_);rcases hg.iH b hI2 with h|h
    ·exact(hf.qR.wr k o b bo cap h1 h2).2 h
    ·have:=ky hf.qR h2;omega
end call
end
section
variable {mn:Prop}
section qR
variable {σ:Nat->Option FuncId} {β:Map} {I Wr:Nat->Prop} {wd:Nat->Prop} {w:World} {n:Nat} {H:List ah}
theorem ah.wL (o:ah)(β:Map)(k:Nat):(o.az n).live β k=o.live β k:=by cases o<;>rfl
theorem ah.GK {o:ah}{av sz:Nat}{es:List D}(h:o.az n=.row av sz es):o=.row av sz es:=by cases o<;>simp_all[ah.az]
theorem ah.SX {o:ah}{av sz:Nat}{es:List D}(h:o.az n=.h_ av sz es):o=.h_ av sz es:=by cases o<;>simp_all[ah.az]
theorem ah.SY {o:ah}{es:List (D × D)}(h:o.az n=.map es):o=.map es:=by cases o<;>simp_all[ah.az]
theorem ah.S9 {o:ah}{es:List (D × D)}(h:o.shift n=.map es):o=.map es:=by cases o<;>simp_all[ah.shift]
theorem ah.S_ {o:ah}{cs:List FV}(h:o.az n=.box cs):∃ cs',o=.box cs'/\cs=cs'.map (FV.az n):=by
 cases o<;>simp_all[ah.az,fI]
theorem ah.nU (o:ah)(β:Map)(k:Nat):(o.shift n).live β k=o.live β k:=by cases o<;>rfl
theorem ah.GL {o:ah}{av sz:Nat}{es:List D}(h:o.shift n=.row av sz es):o=.row av sz es:=by cases o<;>simp_all[ah.shift]
theorem ah.Ta {o:ah}{av sz:Nat}{es:List D}(h:o.shift n=.h_ av sz es):o=.h_ av sz es:=by cases o<;>simp_all[ah.shift]
theorem ah.Tc {o:ah}{cs:List FV}(h:o.shift n=.box cs):∃ cs',o=.box cs'/\cs=cs'.map (FV.shift n):=by
 cases o<;>simp_all[ah.shift,qi]
theorem bf.old (h:bf σ n β I Wr wd H w){n':Nat}{Wr':Nat->Prop}{wd':Nat->Prop}(hnew:∀ b,w.heap.size<=b->Wr' b)
  (hw:∀ (k:Nat) (o:ah) b bo cap,H[k]?=some o->o.live β k=some (b,bo,cap)->wd' k->Wr' b):bf σ n' β I Wr' wd' (H.map (ah.az n)) w:=by
 have hget:∀ (k:Nat) (o:ah),(H.map (ah.az n))[k]?=some o->∃ o',H[k]?=some o'/\o'.az n=o:=by
  intro k o hk;simpa[Qb1,Qf1] using hk
 refine⟨h.mf,h.blt,hnew,fun k v x hx=>by rw[Qj1];exact h.dom k v x hx,?_,?_,?_,?_,?_,?_,?_⟩
 ·intro k av sz es v x h1 h2;obtain⟨o',h3,h4⟩:=hget k _ h1;have:=ah.GK h4;subst this;exact h.mO _ _ _ _ _ _ h3 h2
 ·intro k o b bo cap h1 h2;obtain⟨o',h3,rfl⟩:=hget k _ h1;rw[ah.wL]at h2;exact⟨hw k o' b bo cap h3 h2,(h.wr k o' b bo cap h3 h2).2⟩
 ·intro k cs b bo cap h1 h2;obtain⟨o',h3,h4⟩:=hget k _ h1;obtain⟨cs',rfl,rfl⟩:=ah.S_ h4;obtain⟨a0,c,e',a1,a2,a3⟩:=h.box k cs' b bo cap h3 h2;refine⟨a0,c,e',a1,by simpa using a2,fun j f x e1 e2 => ?_⟩;simp only[Qb1,Qf1]at e1;obtain⟨f',e3,rfl⟩:=e1;exact(a3 j f' x e3 e2).az n'
 ·intro k av sz es b bo cap h1 h2;obtain⟨o',h3,h4⟩:=hget k _ h1;have:=ah.GK h4;subst this;exact h.row _ _ _ _ _ _ _ h3 h2
 ·intro k av sz es b bo cap h1 h2;obtain⟨o',h3,h4⟩:=hget k _ h1;have:=ah.SX h4;subst this;exact h.h_ _ _ _ _ _ _ _ h3 h2
 ·intro k k' o1 o2 b bo cap wF cap' h1 h2 h3 h4;obtain⟨o1',h5,rfl⟩:=hget k _ h1;obtain⟨o2',h6,rfl⟩:=hget k' _ h2;rw[ah.wL]at h3 h4;exact h.inj k k' o1' o2' b bo cap wF cap' h5 h6 h3 h4
 ·intro k es b bo cap h1 h2;obtain⟨o',h3,h4⟩:=hget k _ h1;have:=ah.SY h4;subst this;exact h.map _ _ _ _ _ h3 h2
theorem bf.empty (n:Nat){Wr:Nat->Prop}{wd:Nat->Prop}(hi:∀ b,I b->b<w.heap.size)(hw:∀ b,w.heap.size<=b->Wr b):bf σ n (fun _ _=>none) I Wr wd [] w:=by
 constructor
 ·exact hi
 ·intro _ _ _ _ _ h;cases h
 ·exact hw
 ·intro _ _ _ h;cases h
 all_goals intros;simp at*
def Map.join (β β':Map)(m:Nat):Map:=fun k v=>if k<m then β k v else β' (k-m) v
theorem Map.mW {β β':Map}{m k v:Nat}(h:k<m):Map.join β β' m k v=β k v:=by simp[Map.join,h]
theorem Map.mX {β β':Map}{m k v:Nat}(h:m<=k):Map.join β β' m k v=β' (k-m) v:=by simp[Map.join,Nat.not_lt.2 h]
theorem bf.merge {β':Map}{I':Nat->Prop}{w':World}{B:List ah}(h:bf σ n β I Wr wd H w)(hn:n<=H.length)(k:bf σ 0 β' I' (fun b=>w.heap.size<=b) (fun _=>True) B w')(hx:Ext mn (fun _ _=>none) β' I I' (fun b=>w.heap.size<=b) w w') :
  Ext mn β (Map.join β β' H.length) I I' Wr w w'/\bf σ n (Map.join β β' H.length) I' Wr wd (H++B.map (ah.shift (H.length-n))) w':=by
 have NM:∀ k v x,β k v=some x->Map.join β β' H.length k v=some x:=fun k v x e=>(Map.mW (h.dom k v x e)).trans e
 have hkeep:∀ b,b<w.heap.size->w'.heap[b]?=w.heap[b]?:=fun b hb=>hx.keepW b hb ae
 have aiE:∀ b,I' b->b<w.heap.size->I b:=fun b hb hlt=>(hx.iH b hb).elim id (fun h=>by omega)
 have hsh:∀ i av y,β' i av=some y->Map.join β β' H.length (n+(H.length-n+i)) av=some y:=by
  intro i av y hy;rw[Map.mX ae,show n+(H.length-n+i)-H.length=i by omega];exact hy
 have hget:∀ (j:Nat) (o:ah),(H++B.map (ah.shift (H.length-n)))[j]?=some o->(j<H.length/\H[j]?=some o)\/(H.length<=j/\∃ o',B[j-H.length]?=some o'/\o'.shift (H.length-n)=o):=by
  intro j o hj;rcases Qg0 j H.length with hl|hl
  ·rw[Qa0 hl]at hj;exact .inl ⟨hl,hj⟩
  ·rw[Qc0 hl,Qb1,Qf1]at hj;exact .inr ⟨hl,hj⟩
 have hlive:∀ (j:Nat) (o:ah),j<H.length->o.live (Map.join β β' H.length) j=o.live β j:=fun j o hj=>by cases o<;>simp[ah.live,Map.mW hj]
 have nV:∀ (j:Nat) (o:ah),H.length<=j->o.live (Map.join β β' H.length) j=o.live β' (j-H.length):=fun j o hj=>by cases o<;>simp[ah.live,Map.mX hj]
 refine⟨⟨NM,hx.im,fun b hb=>(hx.iH b hb).imp id (h.kG b),hx.size,hx.fO,fun b hb _=>hkeep b hb,hx.os,hx.tape,hx.output,hx.drawn⟩,?_⟩;refine⟨k.mf,?_,fun b hb=>h.kG b (Qc1 hx.size hb),?_,?_,?_,?_,?_,?_,?_,?_⟩
 ·intro j v b bo cap hb;unfold Map.join at hb;split at hb
  ·exact Qk1 (h.blt _ _ _ _ _ hb) hx.size
  ·exact k.blt _ _ _ _ _ hb
 ·intro j v x hb;rw[Qb0,Qj1];unfold Map.join at hb;split at hb
  ·omega
  ·have:=k.dom _ _ _ hb;omega
 ·intro j av sz es v x h1 h2;rcases hget j _ h1 with ⟨hl,h3⟩|⟨hl,o',h3,h4⟩
  ·rw[Map.mW hl]at h2;exact h.mO _ _ _ _ _ _ h3 h2
  ·have:=ah.GL h4;subst this;rw[Map.mX hl]at h2;exact k.mO _ _ _ _ _ _ h3 h2
 ·intro j o b bo cap h1 h2;rcases hget j _ h1 with ⟨hl,h3⟩|⟨hl,o',h3,rfl⟩
  ·rw[hlive _ _ hl]at h2;obtain⟨a1,a2⟩:=h.wr _ _ _ _ _ h3 h2;exact⟨a1,fun hb=>a2 (aiE b hb (ky h h2))⟩
  ·rw[ah.nU,nV _ _ hl]at h2;obtain⟨a1,a2⟩:=k.wr _ _ _ _ _ h3 h2;exact⟨fun _=>h.kG b (a1 trivial),a2⟩
 ·intro j cs b bo cap h1 h2;rcases hget j _ h1 with ⟨hl,h3⟩|⟨hl,o',h3,h4⟩
  ·rw[Map.mW hl]at h2;obtain⟨a0,c,e',a1,a2,a3⟩:=h.box _ _ _ _ _ h3 h2;exact⟨a0,c,e',by rw[hkeep b (h.blt _ _ _ _ _ h2)];exact a1,a2,fun i f x e1 e2=>(a3 i f x e1 e2).mono NM hx.im hx.fO⟩
  ·obtain⟨cs',rfl,rfl⟩:=ah.Tc h4;rw[Map.mX hl]at h2;obtain⟨a0,c,e',a1,a2,a3⟩:=k.box _ _ _ _ _ h3 h2;refine⟨a0,c,e',a1,by simpa using a2,fun i f x e1 e2 => ?_⟩;simp only[Qb1,Qf1]at e1;obtain⟨f',e3,rfl⟩:=e1;exact(a3 i f' x e3 e2).shift hsh
 ·intro j av sz es b bo cap h1 h2;rcases hget j _ h1 with ⟨hl,h3⟩|⟨hl,o',h3,h4⟩
  ·rw[Map.mW hl]at h2;obtain⟨a0,c,e',a1,a2⟩:=h.row _ _ _ _ _ _ _ h3 h2;have hb:=hkeep b (h.blt _ _ _ _ _ h2);exact⟨a0.mono hx.im hx.fO hb,c,e',by rw[hb];exact a1,a2⟩
  ·have:=ah.GL h4;subst this;rw[Map.mX hl]at h2;exact k.row _ _ _ _ _ _ _ h3 h2
 ·intro j av sz es b bo cap h1 h2;rcases hget j _ h1 with ⟨hl,h3⟩|⟨hl,o',h3,h4⟩
  ·rw[Map.mW hl]at h2;obtain⟨a0,a1⟩:=h.h_ _ _ _ _ _ _ _ h3 h2;exact⟨a0.mono hx.im hx.fO (hx.fO b a1),hx.im b a1⟩
  ·have:=ah.Ta h4;subst this;rw[Map.mX hl]at h2;exact k.h_ _ _ _ _ _ _ _ h3 h2
 ·intro j j' o1 o2 b bo cap wF cap' h1 h2 h3 h4;rcases hget j _ h1 with ⟨hl,h5⟩|⟨hl,o1',h5,rfl⟩<;>rcases hget j' _ h2 with ⟨hl',h6⟩|⟨hl',o2',h6,rfl⟩
  ·rw[hlive _ _ hl]at h3;rw[hlive _ _ hl']at h4;exact h.inj _ _ _ _ _ _ _ _ _ h5 h6 h3 h4
  ·rw[hlive _ _ hl]at h3;rw[ah.nU,nV _ _ hl']at h4;have h7:=ky h h3;have h8:w.heap.size<=b:=(k.wr _ _ _ _ _ h6 h4).1 trivial;omega
  ·rw[ah.nU,nV _ _ hl]at h3;rw[hlive _ _ hl']at h4;have h7:=ky h h4;have h8:w.heap.size<=b:=(k.wr _ _ _ _ _ h5 h3).1 trivial;omega
  ·rw[ah.nU,nV _ _ hl]at h3;rw[ah.nU,nV _ _ hl']at h4;have:=k.inj _ _ _ _ _ _ _ _ _ h5 h6 h3 h4;omega
 ·intro j es b bo cap h1 h2;rcases hget j _ h1 with ⟨hl,h3⟩|⟨hl,o',h3,h4⟩
  ·rw[Map.mW hl]at h2;obtain⟨ms,clock,a1,a2⟩:=h.map _ _ _ _ _ h3 h2;exact⟨ms,clock,by rw[hkeep b (h.blt _ _ _ _ _ h2)];exact a1,a2.mono hx.im hx.fO⟩
  ·have:=ah.S9 h4;subst this;rw[Map.mX hl]at h2;exact k.map _ _ _ _ _ h3 h2
end qR
section call
variable {P:Program} {E:Env} {σ:Nat->Option FuncId} {β:Map} {I Wr:Nat->Prop} {wd:Nat->Prop} {w:World} {st st':St} {rec:Nat->List FV->List ah->bJ} {draw:Bool} {v:FV}
theorem xP {xs:List FV}{ds:List D}(h:jN xs=some ds){n:Nat}{vs:List Value}(hr:gW σ β I w n xs vs)(β':Map)(n':Nat):gW σ β' I w n' xs vs:=by
 refine⟨hr.1,fun i c x hc hx => ?_⟩;have:=hr.2 i c x hc hx;have hd:∀ (xs:List FV) (ds:List D),jN xs=some ds->∀ c ∈ xs,∃ y,c=.d y:=by
  intro xs
  induction xs with
  | nil=>intro _ _ c hc;simp at hc
  | cons z zs ih =>
   intro ds h c hc;cases z<;>simp only[jN]at h<;>try (cases h;done)
   split at h<;>simp at h;rcases Qi1.1 hc with rfl|hc
   ·exact⟨_,rfl⟩
   ·exact ih _ (by assumption) c hc
 obtain⟨y,rfl⟩:=hd xs ds h c (Qa2 hc);cases this with|d h=>exact .d h
theorem EE {g:Nat}{args xs:List FV}{f:FuncId}{bz:Array Value}(hrec:kC P E σ rec)(hS:fQ σ β I Wr wd w st)(hG:dX E σ I w)(hσ:σ g=some f)
  (hA:gW σ β I w st.base.length args bz.toList) (hl:gN st args=some xs) (hd:(jN xs).isSome=true) (h:eT rec draw st g xs (args.flatMap FV.rows)=some (v,st')) (hdt:draw=false->jm st.base.length st' wd) :
  Calls P f bz w fun e w'=>∃ x,e=.returned x/\Post E.mn σ st.base.length (st.base++st.loc).length β I Wr wd w st' v x w':=by
 obtain⟨ds,hds⟩:=Q62.1 hd;unfold eT at h;split at h
 ·rename_i y hcall;obtain⟨I1,hf⟩:=iY (args.flatMap FV.rows) hS;have hx:=gY hS hl hA hf.im (hf.EC hS);have:=(hrec _ _ _ _ hcall).2 f hσ (fun _ _=>none) I1 w bz (.empty _ hf.qR.mf (fun _ h=>h)) (xP hds hx _ _) (hG.mono hf.im (fun _ _=>rfl));refine this.mono fun e w' ⟨x,y',I2,he,hy,hrx,hg⟩=>⟨x,he,?_⟩
  subst hy;exact ED hS hf hdt hrx hg h
 ·rename_i y B hcall;split at h
  ·rename_i hrows;cases h;have hx:=gY (I':=I) hS hl hA (fun _ h=>h) (by rw[hrows];intro p hp;simp at hp);have:=(hrec _ _ _ _ hcall).2 f hσ (fun _ _=>none) I (fun b=>w.heap.size<=b) w bz (.empty _ hS.mf (fun _ h=>h)) (xP hds hx _ _) hG;refine this.mono fun e w' ⟨x,β',I',he,hxt,hsm,hrx⟩=>⟨x,he,?_⟩
   have hlen:(st.base++st.loc).length-st.base.length=st.loc.length:=aC;obtain⟨m1,m2⟩:=hS.merge aC (hsm 0 (fun _=>True)) hxt;refine⟨_,I',m1,?_,(hrx 0).shift ?_,fun k u hk _=>Map.mW hk⟩
   ·rw[hlen,Qm2]at m2;exact m2
   ·intro i av z hz;rw[Map.mX (by rw[Qb0];omega),show st.base.length+(st.loc.length+i)-(st.base++st.loc).length=i by rw[Qb0];omega];exact hz
  ·split at h
   ·cases h
   ·rename_i hdr;have hdr:draw=false:=by simpa using hdr
    cases h;obtain⟨I1,hf⟩:=iY (args.flatMap FV.rows) hS;have hx:=gY hS hl hA hf.im (hf.EC hS);have:=(hrec _ _ _ _ hcall).2 f hσ (fun _ _=>none) I1 (fun b=>w.heap.size<=b) w bz (.empty _ hf.qR.mf (fun _ h=>h)) (xP hds hx _ _) (hG.mono hf.im (fun _ _=>rfl));refine this.mono fun e w' ⟨x,β',I',he,hxt,hsm,hrx⟩=>⟨x,he,?_⟩
    have hl1:((aK st (args.flatMap FV.rows)).base++(aK st (args.flatMap FV.rows)).loc).length=(st.base++st.loc).length:=by
     rw[Qb0,Qb0,hf.base,hf.len]
    have hlen:(st.base++st.loc).length-st.base.length=st.loc.length:=aC;obtain⟨m1,m2⟩:=hf.qR.merge (by rw[hl1];simp) (hsm 0 (fun _=>True)) hxt;rw[hl1]at m1 m2;refine⟨_,I',⟨m1.bm,fun b hb=>m1.im b (hf.im b hb),fun b hb => ?_,m1.size,fun b hb=>m1.fO b (hf.im b hb),m1.keepW,m1.os,m1.tape,m1.output,m1.drawn⟩,?_,(hrx 0).shift ?_,fun k u hk _=>Map.mW hk⟩
    ·rcases m1.iH b hb with h|h
     ·rcases hf.iH b h with h|⟨k,o,bo,cap,h1,h2,h3⟩
      ·exact .inl h
      ·exact .inr ((hS.wr k o b bo cap h1 h2).1 (h3.elim (fun hd=>(hdt hdr).2 hd k) ((hdt hdr).1 k)))
     ·exact .inr h
    ·rw[hlen,Qm2]at m2;exact m2
    ·intro i av z hz;rw[Map.mX (by rw[Qb0];omega),show st.base.length+(st.loc.length+i)-(st.base++st.loc).length=i by rw[Qb0];omega];exact hz
 ·cases h
theorem aI.BM {β:Map}{I:Nat->Prop}{w:World}{n:Nat}{v:FV}{x:Value}(h:aI σ β I w n v x):aI σ β I w n (BM n v) x:=by
 unfold Fi.BM;split
 ·split
  ·rename_i hi;cases h with
   | ls h1 h2 h3=>exact .ls (p:=.loc _) (by simp only[Ref.abs]at h1 ⊢;rw[show n+(_-n)=_ from Nat.add_sub_cancel' hi];exact h1) h2 h3
  ·exact h
 ·exact h
theorem vJ {g:Nat}{rows:List Ref}{xs:List FV}{f:FuncId}{bz:Array Value}(hrl:fC rec)(hrec:kC P E σ rec)(hS:fQ σ β I Wr wd w st)(hG:dX E σ I w)(hσ:σ g=some f)
  {I1:Nat->Prop} (hf:EB σ β I I1 Wr wd st (aK st rows) w rows) (hx:gW σ β I1 w st.base.length xs bz.toList) (h:dE rec draw st g xs rows=some (v,st')) (hdt:draw=false->jm st.base.length st' wd) :
  Calls P f bz w fun e w'=>∃ x,e=.returned x/\Post E.mn σ st.base.length (st.base++st.loc).length β I Wr wd w st' v x w':=by
 have hx':∀ n',gW σ β I1 w n' (FV.aP st.base.length xs) bz.toList:=by
  intro n';rw[fI];refine⟨by simpa using hx.1,fun i c x hc hy => ?_⟩;simp only[Qb1,Qf1]at hc;obtain⟨d,hd,rfl⟩:=hc;exact(hx.2 i d x hd hy).az n'
 have hlen:(((aK st rows).base++(aK st rows).loc).map (ah.az st.base.length)).length=st.base.length+st.loc.length:=by
  simp[hf.base,hf.len]
 unfold dE at h;split at h
 ·rename_i y hcall;have hold:=hf.qR.old (n':=(((aK st rows).base++(aK st rows).loc).map (ah.az st.base.length)).length) (Wr':=fun b=>w.heap.size<=b) (wd':=fun k=>(((aK st rows).base++(aK st rows).loc).map (ah.az st.base.length)).length<=k) (fun _ h=>h)
   (fun k o b bo cap h1 _ h2=>by
    have:=(aT h1)
    simp only[Qj1]at h2;omega)
  have:=(hrec _ _ _ _ hcall).2 f hσ β I1 w bz hold (hx' _) (hG.mono hf.im (fun _ _=>rfl));refine this.mono fun e w' ⟨x,y',I2,he,hy,hrx,hg⟩=>⟨x,he,?_⟩
  subst hy;exact ED hS hf hdt hrx hg h
 ·rename_i y B hcall;split at h
  ·cases h
  ·rename_i hdr;cases h;have hmw:=hdt (by simpa using hdr);have hwd:∀ k,wd k:=by
    intro k;rcases Qr2 st.base.length with h0|h0
    ·exact hmw.1 k ae
    ·exact hmw.2 (by simp[h0]) k
   have hWr:∀ (k:Nat) (o:ah) b bo cap,((aK st rows).base++(aK st rows).loc)[k]?=some o->o.live β k=some (b,bo,cap)->Wr b:=fun k o b bo cap h1 h2=>(hf.qR.wr k o b bo cap h1 h2).1 (hwd k)
   have hold:=hf.qR.old (n':=(((aK st rows).base++(aK st rows).loc).map (ah.az st.base.length)).length) (Wr':=Wr) (wd':=fun _=>True) hS.kG
    (fun k o b bo cap h1 h2 _=>hWr k o b bo cap h1 h2)
   have:=(hrec _ _ _ _ hcall).2 f hσ β I1 Wr w bz hold (hx' _) (hG.mono hf.im (fun _ _=>rfl));refine this.mono fun e w' ⟨x,β',I',he,hxt,hsm,hrx⟩=>⟨x,he,β',I',?_,?_,(hrx _).BM,fun k u _ hn=>(hn (hwd k)).elim⟩
   ·refine⟨hxt.bm,fun b hb=>hxt.im b (hf.im b hb),fun b hb => ?_,hxt.size,fun b hb=>hxt.fO b (hf.im b hb),hxt.keepW,hxt.os,hxt.tape,hxt.output,hxt.drawn⟩;rcases hxt.iH b hb with h|h
    ·rcases hf.iH b h with h|⟨k,o,bo,cap,h1,h2,h3⟩
     ·exact .inl h
     ·exact .inr ((hS.wr k o b bo cap h1 h2).1 (hwd k))
    ·exact .inr h
   ·have hBl:=hrl _ _ _ _ _ hcall;rw[hlen]at hBl;simp only[Xe2];exact hsm _ _
 ·cases h
theorem EF {g:Nat}{args xs:List FV}{f:FuncId}{bz:Array Value}(hrl:fC rec)(hrec:kC P E σ rec)(hS:fQ σ β I Wr wd w st)(hG:dX E σ I w)(hσ:σ g=some f)
  (hA:gW σ β I w st.base.length args bz.toList) (hl:gN st args=some xs) (h:dE rec draw st g xs (args.flatMap FV.rows)=some (v,st')) (hdt:draw=false->jm st.base.length st' wd) :
  Calls P f bz w fun e w'=>∃ x,e=.returned x/\Post E.mn σ st.base.length (st.base++st.loc).length β I Wr wd w st' v x w':=by
 obtain⟨I1,hf⟩:=iY (args.flatMap FV.rows) hS;exact vJ hrl hrec hS hG hσ hf (gY hS hl hA hf.im (hf.EC hS)) h hdt
theorem Fv {g:Nat}{args:List FV}{f:FuncId}{bz:Array Value}(hrl:fC rec)(hrec:kC P E σ rec)(hS:fQ σ β I Wr wd w st)(hG:dX E σ I w)(hσ:σ g=some f)
  (hA:gW σ β I w st.base.length args bz.toList) (h:dE rec draw st g args []=some (v,st')) (hdt:draw=false->jm st.base.length st' wd) :
  Calls P f bz w fun e w'=>∃ x,e=.returned x/\Post E.mn σ st.base.length (st.base++st.loc).length β I Wr wd w st' v x w':=by
 obtain⟨I1,hf⟩:=iY [] hS;exact vJ hrl hrec hS hG hσ hf ⟨hA.1,fun i c x h1 h2=>(hA.2 i c x h1 h2).mono (fun _ _ _ h=>h) hf.im (fun _ _=>rfl)⟩ h hdt
theorem EG {g:Nat}{args:List FV}{rows:List Ref}(hrec:kC P E σ rec)(h:dE rec draw st g args rows=some (v,st')):Given E g:=by
 unfold dE at h;split at h
 ·rename_i hc;exact(hrec _ _ _ _ hc).1
 ·rename_i hc;exact(hrec _ _ _ _ hc).1
 ·cases h
theorem ry {g:Nat}{args:List FV}(hrec:kC P E σ rec)(h:gz rec draw st g args=some (v,st')):Given E g:=by
 unfold gz at h;split at h
 ·cases h
 ·split at h
  ·unfold eT at h;split at h
   ·rename_i hc;exact(hrec _ _ _ _ hc).1
   ·rename_i hc;exact(hrec _ _ _ _ hc).1
   ·cases h
  ·unfold dE at h;split at h
   ·rename_i hc;exact(hrec _ _ _ _ hc).1
   ·rename_i hc;exact(hrec _ _ _ _ hc).1
   ·cases h
theorem rz {g:Nat}{args:List FV}{f:FuncId}{bz:Array Value}(hrl:fC rec)(hrec:kC P E σ rec)(hS:fQ σ β I Wr wd w st)(hG:dX E σ I w)(hσ:σ g=some f)
  (hA:gW σ β I w st.base.length args bz.toList) (h:gz rec draw st g args=some (v,st')) (hdt:draw=false->jm st.base.length st' wd) :
  Calls P f bz w fun e w'=>∃ x,e=.returned x/\Post E.mn σ st.base.length (st.base++st.loc).length β I Wr wd w st' v x w':=by
 unfold gz at h;split at h
 ·cases h
 ·rename_i xs hl;split at h
  ·rename_i hd;exact EE hrec hS hG hσ hA hl hd h hdt
  ·exact EF hrl hrec hS hG hσ hA hl h hdt
end call
end
section
theorem gW.append {σ:Nat->Option FuncId}{β:Map}{I:Nat->Prop}{w:World}{n:Nat}{a b:List FV}{xs ys:List Value}(h:gW σ β I w n a xs)(k:gW σ β I w n b ys):gW σ β I w n (a++b) (xs++ys):=by
 refine⟨by rw[Qb0,Qb0,h.1,k.1],fun i c x hc hx => ?_⟩;rcases Qg0 i a.length with hl|hl
 ·rw[Qa0 hl]at hc;rw[Qa0 (by rw[h.1];exact hl)]at hx;exact h.2 i c x hc hx
 ·rw[Qc0 hl]at hc;rw[Qc0 (by rw[h.1];exact hl),h.1]at hx;exact k.2 _ c x hc hx
section step
variable {P:Program} {E:Env} {cx:Cx} {σ:Nat->Option FuncId} {β:Map} {I Wr:Nat->Prop} {wd:Nat->Prop} {w:World} {st st':St} {env:List FV} {aL:List (Option Tmp)} {ρ:Operand->Value}
variable {rec:Nat->List FV->List ah->bJ} {draw:Bool} {k:K} {v:FV} {o:Oper}
def Bodies (P : Program) (E : Env) (σ : Nat → Option FuncId) : Prop := ∀ g f, Given E g → σ g = some f → ∃ fn c, P.funcs[f]? = some fn ∧ fn.body = some c ∧ (fn.name == "runtime.NumGoroutine") = false
theorem IV {f : FuncId} {fn : Func} {c : Code} {args : Array Value} (h1 : P.funcs[f]? = some fn) (h2 : fn.body = some c) (h3 : (fn.name == "runtime.NumGoroutine") = false) (w : World) :
  (callFunc f args).run P w=.ok (.enter f args) w:=by
 unfold callFunc;have h4 : ¬ fn.name = "runtime.NumGoroutine" := by simpa using h3
 simp[h1,h2,h4]
theorem IW {c:Call}{x:Operand}{f:FuncId}{first captured:Array Value}(ho:o.op=.call c)(hcl:c.callee=.value x)(hx:ρ x=.func (.func f) first captured){fn:Func}{b:Code}
  (h1 : P.funcs[f]? = some fn) (h2 : fn.body = some b) (h3 : (fn.name == "runtime.NumGoroutine") = false) {Φ : Value → World → Prop}
  (h:Calls P f (first++c.args.map ρ++captured) w fun e w'=>∃ x,e=.returned x/\Φ x w'):Yields P o ρ w Φ:=by
 have he:(execOp ρ o).run P w=.ok (.enter f (first++c.args.map ρ++captured)) w:=by
  simp[execOp,ho,resolve,hcl,hx,Deferred.ofValue,invoke,IV h1 h2 h3]
 unfold Yields;rw[he];exact h
theorem s_call {c:Call}{x:Operand}(ho:o.op=.call c)(hcl:c.callee=.value x)(u_:∀ f,ρ (.func f)=.func (.func f) #[] #[])(bA:∀ f g,cx.gid f=some g->σ g=some f)(hB:Bodies P E σ)
  (hrl:fC rec) (hrec:kC P E σ rec) (hG:dX E σ I w)
  (hc:aY P cx aL o=some k) (hk:runK E rec draw st env k=some (v,st')) (hdt:k.loud draw=true->jm st.base.length st' wd) (hS:fQ σ β I Wr wd w st) (hA:bX P E cx σ β I w st env aL ρ (x::c.args.toList)) :
  Yields P o ρ w (Post E.mn σ st.base.length (st.base++st.loc).length β I Wr wd w st' v):=by
 simp only[aY,ho,hcl]at hc;split at hc
 ·rename_i f hf;cases hf;split at hc<;>simp at hc;subst hc;rename_i g as hg has;cases hr:cx.vD f with
  | false =>
   simp only[hr,Qh1,if_false]at hk hdt;have hl:draw=false->jm st.base.length st' wd:=fun hd=>hdt (by split<;>simp[K.loud,hd])
   have hk':(match fF E st env as with|some fs=>gz rec draw st g fs|none=>none)=some (v,st'):=by
    split at hk
    ·simp only[runK,dw]at hk;cases hx:fF E st env as with
     | none=>simp[hx]at hk
     | some xs=>simpa[hx] using hk
    ·exact hk
   split at hk'
   ·rename_i fs hfs;obtain⟨fn,b,h1,h2,h3⟩:=hB g f (ry hrec hk') (bA _ _ hg);refine IW ho hcl (u_ f) h1 h2 h3 ?_;have hL:=jc hA (fun _ h=>Qg2 _ h) has hfs;exact rz hrl hrec hS hG (bA _ _ hg) (by simpa using hL) hk' hl
   ·cases hk'
  | true =>
   simp only[hr,if_true]at hk hdt;simp only[runK]at hk;split at hk
   ·rename_i fs hfs;obtain⟨fn,b,h1,h2,h3⟩:=hB g f (EG hrec hk) (bA _ _ hg);refine IW ho hcl (u_ f) h1 h2 h3 ?_;have hL:=jc hA (fun _ h=>Qg2 _ h) has hfs;exact Fv hrl hrec hS hG (bA _ _ hg) (by simpa using hL) hk (fun hd=>hdt (by simp[K.loud,hd]))
   ·cases hk
 ·rename_i x' hne hf;cases hf;split at hc<;>simp at hc;subst hc;rename_i a as ha has;simp only[runK]at hk;split at hk
  ·rename_i g xs hfv hfs;have hr:=hA _ x a _ aC ha hfv;cases hr with
   | d hr =>
    generalize hρ:ρ x=z at hr;cases hr with
    | fn hσ =>
     obtain⟨fn,b,h1,h2,h3⟩:=hB _ _ (ry hrec hk) hσ;refine IW ho hcl hρ h1 h2 h3 ?_;have hL:=jc hA (fun _ h=>Qg2 _ h) has hfs;exact rz hrl hrec hS hG hσ (by simpa using hL) hk (fun hd=>hdt (by simp[K.loud,hd]))
  ·rename_i g first captured xs hfv hfs
   have hr:=hA _ x a _ aC ha hfv;generalize hρ:ρ x=z at hr;cases hr with
   | @f _ kk _ _ vs us hσ e1 e2 hv hu =>
    obtain⟨fn,b,h1,h2,h3⟩:=hB _ _ (ry hrec hk) hσ;refine IW ho hcl hρ h1 h2 h3 ?_;have hL:=jc hA (fun _ h=>Qg2 _ h) has hfs;refine rz hrl hrec hS hG hσ ?_ hk (fun hd=>hdt (by simp[K.loud,hd]));simp only[Array.toList_append,Array.toList_map];have r1:gW σ β I w st.base.length first vs.toList:=⟨by simpa using e1,fun i c x h1 h2=>hv i c x h1 (by simpa using h2)⟩
    have r2:gW σ β I w st.base.length captured us.toList:=⟨by simpa using e2,fun i c x h1 h2=>hu i c x h1 (by simpa using h2)⟩
    exact gW.append (gW.append r1 hL) r2
  ·cases hk
 ·simp_all
 ·simp_all
end step
end
section
section step
variable {P:Program} {E:Env} {cx:Cx} {σ:Nat->Option FuncId} {β:Map} {I Wr:Nat->Prop} {wd:Nat->Prop} {w:World} {st st':St} {env:List FV} {aL:List (Option Tmp)} {ρ:Operand->Value}
variable {rec:Nat->List FV->List ah->bJ} {draw:Bool} {k:K} {v:FV} {o:Oper}
theorem bX.sub {xs ys:List Operand}(h:bX P E cx σ β I w st env aL ρ xs)(hs:∀ x ∈ ys,x ∈ xs):bX P E cx σ β I w st env aL ρ ys:=fun ty x y f hm=>h ty x y f (hs x hm)
theorem Oz (u_:∀ v,ρ (.const v)=v)(hfun:∀ f,ρ (.func f)=.func (.func f) #[] #[])(bA:∀ f g,cx.gid f=some g->σ g=some f)(hB:Bodies P E σ)
  (hrl:fC rec) (hrec:kC P E σ rec) (hG:dX E σ I w)
  (hc:aY P cx aL o=some k) (hk:runK E rec draw st env k=some (v,st')) (hdt:k.loud draw=true->jm st.base.length st' wd) (hS:fQ σ β I Wr wd w st) (hA:bX P E cx σ β I w st env aL ρ o.op.operands.toList) :
  Yields P o ρ w (Post E.mn σ st.base.length (st.base++st.loc).length β I Wr wd w st' v):=by
 obtain⟨dst,op,type,pos,after,guard⟩:=o;cases op
 case move x=>exact ac1 (.inl rfl) hc hk hS (hA.sub (by simp[Op.operands]))
 case assign x=>exact ac1 (.inr rfl) hc hk hS (hA.sub (by simp[Op.operands]))
 case pick c a b=>exact afv hc hk hS (hA.sub (by simp[Op.operands]))
 case alloc e=>exact aiz bA hc hk hS
 case box e x=>exact aiy hc hk hS (hA.sub (by simp[Op.operands]))
 case build t parts=>exact ab9 bA hc hk hS (hA.sub (by simp[Op.operands]))
 case buildSlice t len parts=>exact aiD bA hc hk hS (hA.sub (by simp[Op.operands]))
 case load t x=>exact afx hc hk hS (hA.sub (by simp[Op.operands]))
 case store t x y=>exact ab1 hc hk hdt hS (hA.sub (by simp[Op.operands]))
 case nilCheck x=>exact aiA hc hk hS (hA.sub (by simp[Op.operands]))
 case fieldAddr s x i=>exact ab2 hc hk hS (hA.sub (by simp[Op.operands]))
 case field s x i=>exact ab3 hc hk hS (hA.sub (by simp[Op.operands]))
 case indexAddr t x ix=>exact ab4 hc hk hS (hA.sub (by simp[Op.operands]))
 case index t x ix=>exact ab5 hc hk hS (hA.sub (by simp[Op.operands]))
 case makeSlice t l c=>exact ale bA hc hk hS (hA.sub (by simp[Op.operands]))
 case slice t x lo hi mx =>
  cases mx with
  | none=>exact ab6 hc hk hS (hA.sub (by simp[Op.operands]))
  | some m=>simp[aY]at hc
 case extract x i=>exact aiB hc hk hS (hA.sub (by simp[Op.operands]))
 case makeFunc fn first captured =>
  cases fn with
  | func f=>exact aiC bA hc hk hS (hA.sub (by simp[Op.operands]))
  | _=>simp[aY]at hc
 case binOp op xt x y yt=>exact aix u_ hc hk hS (hA.sub (by simp[Op.operands]))
 case unOp op t x=>exact ald hc hk hS (hA.sub (by simp[Op.operands]))
 case convert src dt x=>exact afw hc hk hS (hA.sub (by simp[Op.operands]))
 case call c =>
  obtain⟨callee,args,yg⟩:=c;cases callee with
  | value x=>exact s_call rfl rfl hfun bA hB hrl hrec hG hc hk hdt hS (hA.sub (by simp[Op.operands,Call.operands]))
  | builtin b=>exact SQ bA hc hk hdt hS (hA.sub (by simp[Op.operands,Call.operands]))
  | invoke r nm=>simp[aY]at hc
 case panic x =>
  simp only[aY,Qe0]at hc;subst hc;simp[runK]at hk
 case makeInterface t x =>
  simp only[aY,Qe0]at hc;subst hc;simp[runK]at hk
 case makeMap t r=>exact ab_ hc hk hS
 case lookup t x ix ok=>exact afy bA hc hk hS (hA.sub (by simp[Op.operands]))
 case mapUpdate t m ix x=>exact afz hc hk hdt hS (hA.sub (by simp[Op.operands]))
 all_goals simp[aY]at hc
end step
end
end Fi
