import Derived.Test.YtbbogkfadofneaaGreatDoorFiB
set_option linter.unusedVariables false
set_option linter.unusedSimpArgs false
namespace Fi
open Go
section
variable {mn:Prop}
section step
variable {P:Program} {E:Env} {cx:Cx} {σ:Nat->Option FuncId} {β:Map} {I Wr:Nat->Prop} {wd:Nat->Prop} {w:World} {st st':St} {env:List FV} {ρ:Operand->Value} {aL:List (Option Tmp)}
variable {rec:Nat->List FV->List ah->bF} {draw:Bool} {v:FV}
def bX (P:Program)(E:Env)(cx:Cx)(σ:Nat->Option FuncId)(β:Map)(I:Nat->Prop)(w:World)(st:St)(env:List FV)(aL:List (Option Tmp))(ρ:Operand->Value)(xs:List Operand):Prop :=
 ∀ ty x y f,x ∈ xs->iT P cx aL ty x=some y->di E st env y=some f->aH σ β I w st.base.length f (ρ x)
theorem jD {xs:List Operand}(hA:bX P E cx σ β I w st env aL ρ xs):∀ {vk:List TypeId} {l:List Operand} {as:List Arg} {fs:List FV},(∀ x ∈ l,x ∈ xs)->gV P cx aL vk l=some as->eZ E st env as=some fs ->
  gG σ β I w st.base.length fs (l.map ρ)
 | vk,[],as,fs,_,hc,hf=>by
  simp[gV]at hc;subst hc;simp[eZ]at hf;subst hf;exact⟨rfl,fun i c x h=>by simp at h⟩
 | vk,x::l,as,fs,hm,hc,hf=>by
  simp only[gV]at hc;split at hc<;>simp at hc;subst hc;rename_i y s h1 h2;simp only[eZ]at hf;split at hf<;>simp at hf;subst hf;rename_i f fs' h3 h4;obtain⟨g1,g2⟩:=jD hA (fun x hx=>hm x (by simp[hx])) h2 h4;refine⟨by simp[g1],fun i c z hc hz => ?_⟩;cases i with
  | zero=>simp at hc hz;subst hc;subst hz;exact hA _ x y f (hm x aA) h1 h3
  | succ i=>exact g2 i c z (by simpa using hc) (by simpa using hz)
theorem WR {n:Nat}{f:FV}{i:Int}{x:Value}(h:F8 f=some i)(hr:aH σ β I w n f x):∃ k,x=.int k i:=by
 unfold F8 at h;split at h
 ·rename_i k m;simp at h;subst h;exact⟨k,hr.val⟩
 ·simp at h
theorem iO {xs:List Operand}(hA:bX P E cx σ β I w st env aL ρ xs){x:Option Operand}{y:Option Arg}{dflt i:Int}(hm:∀ o,x=some o->o ∈ xs)(hc:vz P cx aL x=some y)(hv:j4 y dflt (di E st env)=some i):kG ρ x dflt i:=by
 cases x with
 | none =>
  simp[vz]at hc;subst hc;simp[j4]at hv;exact hv.symm
 | some o =>
  simp only[vz]at hc;split at hc<;>simp at hc;subst hc;rename_i y' h1;simp only[j4]at hv;split at hv
  ·rename_i f h2;exact WR hv (hA _ o y' f (hm o rfl) h1 h2)
  ·simp at hv
theorem Yields.cast {o:Oper}{n:Nat}{v1 v2:FV}{s1 s2:St}(h:Yields P o ρ w (Post mn σ n (st.base++st.loc).length β I Wr wd w s1 v1))(e1:v1=v2)(e2:s1=s2):Yields P o ρ w (Post mn σ n (st.base++st.loc).length β I Wr wd w s2 v2):=by subst e1;subst e2;exact h
variable {type:TypeId} {dst:Option Tmp} {pos:String} {after:Array Edge} {guard:Option (Nat × Bool)} {k:K}
theorem aa7 {op:Op}{x:Operand}(hop:op=.move x\/op=.assign x)(hc:aV P cx aL ⟨dst,op,type,pos,after,guard⟩=some k)(hk:runK E rec draw st env k=some (v,st'))(hS:fB σ β I Wr wd w st)
  (hA:bX P E cx σ β I w st env aL ρ op.operands.toList):Yields P ⟨dst,op,type,pos,after,guard⟩ ρ w (gW mn σ β I Wr wd w st st' v):=by
 have hc':(match iT P cx aL type x with|some a=>some (K.Ak a)|none=>none)=some k:=by rcases hop with rfl|rfl<;>exact hc
 have hm:x ∈ op.operands.toList:=by rcases hop with rfl|rfl<;>simp[Op.operands]
 split at hc'<;>simp at hc';subst hc';rename_i a ha;simp only[runK]at hk;split at hk<;>simp at hk;obtain⟨rfl,rfl⟩:=hk;rename_i f hf;exact agq hop hS (hA _ x a _ hm ha hf)
theorem adH {c a b:Operand}(hc:aV P cx aL ⟨dst,.pick c a b,type,pos,after,guard⟩=some k)(hk:runK E rec draw st env k=some (v,st'))(hS:fB σ β I Wr wd w st)
  (hA:bX P E cx σ β I w st env aL ρ [c,a,b]):Yields P ⟨dst,.pick c a b,type,pos,after,guard⟩ ρ w (gW mn σ β I Wr wd w st st' v):=by
 simp only[aV]at hc;split at hc<;>simp at hc;subst hc;rename_i c' a' b' h1 h2 h3;simp only[runK]at hk;split at hk
 ·rename_i t ht;split at hk<;>simp at hk;obtain⟨rfl,rfl⟩:=hk;rename_i f hf;refine ady (t:=t) hS (hA _ c c' _ aA h1 ht) ?_;cases t
  ·exact hA _ b b' _ aA h3 (by simpa using hf)
  ·exact hA _ a a' _ aA h2 (by simpa using hf)
 ·simp at hk
theorem agB {op:BinOp}{xt yt:TypeId}{x y:Operand}(uu:∀ v,ρ (.const v)=v)(hc:aV P cx aL ⟨dst,.binOp op xt x y yt,type,pos,after,guard⟩=some k)(hk:runK E rec draw st env k=some (v,st'))(hS:fB σ β I Wr wd w st)
  (hA:bX P E cx σ β I w st env aL ρ [x,y]):Yields P ⟨dst,.binOp op xt x y yt,type,pos,after,guard⟩ ρ w (gW mn σ β I Wr wd w st st' v):=by
 simp only[aV,OV]at hc;split at hc
 ·rename_i a b ha hb;have main:∀ op',op'=op->runK E rec draw st env (.bin op' a b)=some (v,st')->Yields P ⟨dst,.binOp op xt x y yt,type,pos,after,guard⟩ ρ w (gW mn σ β I Wr wd w st st' v):=by
   intro op' hop hk;subst hop;simp only[runK]at hk;split at hk
   ·rename_i p q hp hq;split at hk<;>simp at hk;obtain⟨rfl,rfl⟩:=hk;rename_i r hr;exact agr hr hS (hA _ x a _ aA ha hp) (hA _ y b _ aA hb hq)
   ·simp at hk
  split at hc
  ·simp at hc;subst hc;exact main _ rfl hk
  ·simp at hc;subst hc;exact main _ rfl hk
  ·rename_i ht;have mb:∀ neg,op=(if neg then .neq else .eql)->k=.beq neg a b->Yields P ⟨dst,.binOp op xt x y yt,type,pos,after,guard⟩ ρ w (gW mn σ β I Wr wd w st st' v):=by
    intro neg hop hke;subst hke;simp only[runK]at hk;split at hk<;>simp at hk;obtain⟨rfl,rfl⟩:=hk;rename_i p q hp hq;have:=ags (mn:=mn) (dst:=dst) (type:=type) (pos:=pos) (after:=after) (guard:=guard) (yt:=yt) hop ht hS (hA _ x a _ aA ha hp) (hA _ y b _ aA hb hq);exact this
   split at hc<;>simp at hc
   ·exact mb false rfl hc.symm
   ·exact mb true rfl hc.symm
  ·rename_i len e ht;have mb:∀ neg k0,op=(if neg then .neq else .eql)->P.underlying e=some (.int k0)->aX P e=some 1->P.eqGuardType P.depth xt=false->k=.aeq neg len a b->Yields P ⟨dst,.binOp op xt x y yt,type,pos,after,guard⟩ ρ w (gW mn σ β I Wr wd w st st' v):=by
    intro neg k0 hop hu hs hq hke;subst hke;simp only[runK]at hk;split at hk
    ·rename_i p q hp hq';split at hk
     ·rename_i hl;split at hk<;>simp at hk;obtain⟨rfl,rfl⟩:=hk;rename_i t hv;have:=agz (mn:=mn) (dst:=dst) (type:=type) (pos:=pos) (after:=after) (guard:=guard) (yt:=yt) hop ht hu hs hq hl hv hS (hA _ x a _ aA ha hp) (hA _ y b _ aA hb hq');exact this.cast (by cases neg<;>rfl) rfl
     ·cases hk
    ·cases hk
   split at hc
   ·rename_i k0 hu hs;split at hc
    ·cases hc
    ·rename_i hq;cases hc;exact mb false k0 rfl hu hs (by simpa using hq) rfl
   ·rename_i k0 hu hs;split at hc
    ·cases hc
    ·rename_i hq;cases hc;exact mb true k0 rfl hu hs (by simpa using hq) rfl
   ·cases hc
  ·rename_i e ht;have mb:∀ neg,op=(if neg then .neq else .eql)->y=.const (.slice none 0 0)->k=.xA 0 neg a->Yields P ⟨dst,.binOp op xt x y yt,type,pos,after,guard⟩ ρ w (gW mn σ β I Wr wd w st st' v):=by
    intro neg hop hy hke;subst hke;subst hy;simp only[runK]at hk;split at hk<;>simp at hk
    ·rename_i sz _ hp;obtain⟨rfl,rfl⟩:=hk;have hx:=nL (hA _ x a _ aA ha hp);have:=r9 (mn:=mn) (dst:=dst) (type:=type) (pos:=pos) (after:=after) (guard:=guard) (yt:=yt) hop uu ht hx hS;exact this.cast (by cases neg<;>rfl) rfl
    ·rename_i sz e0 es _ hp;obtain⟨rfl,rfl⟩:=hk;have hr:=hA _ x a _ aA ha hp;obtain⟨ad,l,c,hx⟩:∃ ad l c,ρ x=.slice (some ad) l c:=by
      generalize ρ x=z at hr;cases hr with
      | d hr=>cases hr with
       | s u h1 h2 h3 h4 h5 h6=>exact⟨_,_,_,rfl⟩
     have:=r9 (mn:=mn) (dst:=dst) (type:=type) (pos:=pos) (after:=after) (guard:=guard) (yt:=yt) hop uu ht hx hS;exact this.cast (by cases neg<;>rfl) rfl
    ·rename_i sz _ hp;obtain⟨rfl,rfl⟩:=hk;have hr:=hA _ x a _ aA ha hp;obtain⟨ad,l,c,hx⟩:∃ ad l c,ρ x=.slice (some ad) l c:=by
      generalize ρ x=z at hr;cases hr with
      | z=>exact⟨_,_,_,rfl⟩
     have:=r9 (mn:=mn) (dst:=dst) (type:=type) (pos:=pos) (after:=after) (guard:=guard) (yt:=yt) hop uu ht hx hS;exact this.cast (by cases neg<;>rfl) rfl
    ·rename_i h1 h2;simp at h1
    ·rename_i h1 h2;simp at h1
   split at hc<;>simp at hc
   ·exact mb false rfl rfl hc.symm
   ·exact mb true rfl rfl hc.symm
  ·rename_i ms ht;have mb:∀ neg,op=(if neg then .neq else .eql)->y=.const .nilIface->k=.xA 1 neg a->Yields P ⟨dst,.binOp op xt x y yt,type,pos,after,guard⟩ ρ w (gW mn σ β I Wr wd w st st' v):=by
    intro neg hop hy hke;subst hke;subst hy;simp only[runK]at hk;split at hk<;>simp at hk
    ·rename_i h1 h2;simp at h1
    ·rename_i h1 h2;simp at h1
    ·rename_i h1 h2;simp at h1
    ·rename_i _ hp;obtain⟨rfl,rfl⟩:=hk;have hx:=(hA _ x a _ aA ha hp).val;have:=zR (mn:=mn) (dst:=dst) (type:=type) (pos:=pos) (after:=after) (guard:=guard) (yt:=yt) (r:=true) hop uu ht hx (.inl ⟨rfl,rfl⟩) hS;exact this.cast (by cases neg<;>rfl) rfl
    ·rename_i _ hp;obtain⟨rfl,rfl⟩:=hk;have hr:=hA _ x a _ aA ha hp;obtain⟨k1,y1,hx⟩:∃ k1 y1,ρ x=.iface k1 y1:=by
      generalize ρ x=z at hr;cases hr with
      | d hr=>cases hr with
       | i t y=>exact⟨_,_,rfl⟩
     have:=zR (mn:=mn) (dst:=dst) (type:=type) (pos:=pos) (after:=after) (guard:=guard) (yt:=yt) (r:=false) hop uu ht hx (.inr ⟨_,_,rfl,rfl⟩) hS;exact this.cast (by cases neg<;>rfl) rfl
   split at hc<;>simp at hc
   ·exact mb false rfl rfl hc.symm
   ·exact mb true rfl rfl hc.symm
  ·simp at hc
 ·simp at hc
theorem aji {op:UnOp}{xt:TypeId}{x:Operand}(hc:aV P cx aL ⟨dst,.unOp op xt x,type,pos,after,guard⟩=some k)(hk:runK E rec draw st env k=some (v,st'))(hS:fB σ β I Wr wd w st)
  (hA:bX P E cx σ β I w st env aL ρ [x]):Yields P ⟨dst,.unOp op xt x,type,pos,after,guard⟩ ρ w (gW mn σ β I Wr wd w st st' v):=by
 simp only[aV]at hc;split at hc<;>simp at hc;subst hc;rename_i a ha;simp only[runK]at hk;split at hk
 ·rename_i p hp;split at hk<;>simp at hk;obtain⟨rfl,rfl⟩:=hk;rename_i r hr;exact ajc hr hS (hA _ x a _ aA ha hp)
 ·simp at hk
theorem adI {src dt:TypeId}{x:Operand}(hc:aV P cx aL ⟨dst,.convert src dt x,type,pos,after,guard⟩=some k)(hk:runK E rec draw st env k=some (v,st'))(hS:fB σ β I Wr wd w st)
  (hA:bX P E cx σ β I w st env aL ρ [x]):Yields P ⟨dst,.convert src dt x,type,pos,after,guard⟩ ρ w (gW mn σ β I Wr wd w st st' v):=by
 simp only[aV]at hc;split at hc
 ·rename_i k1 k2 h1 h2;split at hc<;>simp at hc;subst hc;rename_i a ha;simp only[runK]at hk;split at hk<;>simp at hk;obtain⟨rfl,rfl⟩:=hk;rename_i hp;exact adz h1 h2 hS (hA _ x a _ aA ha hp)
 ·simp at hc
theorem agC {e:TypeId}{x:Operand}(hc:aV P cx aL ⟨dst,.box e x,type,pos,after,guard⟩=some k)(hk:runK E rec draw st env k=some (v,st'))(hS:fB σ β I Wr wd w st)
  (hA:bX P E cx σ β I w st env aL ρ [x]):Yields P ⟨dst,.box e x,type,pos,after,guard⟩ ρ w (gW mn σ β I Wr wd w st st' v):=by
 simp only[aV]at hc;split at hc<;>simp at hc;subst hc;rename_i a ha;simp only[runK]at hk;split at hk
 ·rename_i f hf;split at hk<;>simp at hk;obtain⟨rfl,rfl⟩:=hk;rename_i ho;exact agt ho hS (hA _ x a _ aA ha hf)
 ·simp at hk
theorem agD {e:TypeId}(bB:∀ f g,cx.gid f=some g->σ g=some f)(hc:aV P cx aL ⟨dst,.alloc e,type,pos,after,guard⟩=some k)(hk:runK E rec draw st env k=some (v,st'))(hS:fB σ β I Wr wd w st) :
  Yields P ⟨dst,.alloc e,type,pos,after,guard⟩ ρ w (gW mn σ β I Wr wd w st st' v):=by
 simp only[aV]at hc;split at hc<;>simp at hc;subst hc;rename_i z hz;simp only[runK]at hk;simp at hk;obtain⟨rfl,rfl⟩:=hk;exact agu bB hz hS
theorem adJ {t:TypeId}{x:Operand}(hc:aV P cx aL ⟨dst,.load t x,type,pos,after,guard⟩=some k)(hk:runK E rec draw st env k=some (v,st'))(hS:fB σ β I Wr wd w st)
  (hA:bX P E cx σ β I w st env aL ρ [x]):Yields P ⟨dst,.load t x,type,pos,after,guard⟩ ρ w (gW mn σ β I Wr wd w st st' v):=by
 simp only[aV]at hc;split at hc<;>simp at hc;subst hc;rename_i a g m ha hg hm;simp only[runK]at hk;split at hk
 ·rename_i q off hp;split at hk
  ·rename_i cs hq;split at hk<;>simp at hk;obtain⟨hpu,rfl,rfl⟩:=hk;rename_i hv;exact WH hg hm hq hv hS (hA _ x a _ aA ha hp)
  ·simp at hk
 ·rename_i q ak sz i off hp;have main:∀ es,(st.heap q=some (.row ak sz es)\/st.heap q=some (.gK ak sz es))->(match es[i]? with|some x=>(match iq x.cells g off m with|some v=>some (FV.d v,st)|none=>none)|none=>none)=some (v,st') ->
    Yields P ⟨dst,.load t x,type,pos,after,guard⟩ ρ w (gW mn σ β I Wr wd w st st' v):=by
   intro es hq hk;split at hk
   ·rename_i e he;split at hk<;>simp at hk;obtain⟨rfl,rfl⟩:=hk;rename_i d hd;exact WI hg hm hq he hd hS (hA _ x a _ aA ha hp)
   ·simp at hk
  split at hk
  ·rename_i jE eQ es hq;split at hk
   ·rename_i hh;obtain⟨rfl,rfl⟩:=hh;exact main es (.inl hq) hk
   ·simp at hk
  ·rename_i jE eQ es hq;split at hk
   ·rename_i hh;obtain⟨rfl,rfl⟩:=hh;exact main es (.inr hq) hk
   ·simp at hk
  ·simp at hk
 ·rename_i y hp;split at hk<;>simp at hk;obtain⟨rfl,rfl⟩:=hk;rename_i d hd;exact Q4 hg hm hd hS (hA _ x a _ aA ha hp)
 ·simp at hk
theorem aaf {t:TypeId}{x y:Operand}(hc:aV P cx aL ⟨dst,.store t x y,type,pos,after,guard⟩=some k)(hk:runK E rec draw st env k=some (v,st'))(hdt:k.loud draw=true->jb st.base.length st' wd)(hS:fB σ β I Wr wd w st)
  (hA:bX P E cx σ β I w st env aL ρ [x,y]):Yields P ⟨dst,.store t x y,type,pos,after,guard⟩ ρ w (gW mn σ β I Wr wd w st st' v):=by
 simp only[aV]at hc;split at hc<;>simp at hc;subst hc;rename_i a b m ha hb hm;simp only[runK]at hk;split at hk
 ·rename_i q off f hp hf;split at hk
  ·rename_i cs hq;split at hk<;>simp at hk;obtain⟨rfl,rfl⟩:=hk;rename_i hh;exact Q_ hm hq hh.1 hh.2.1 hh.2.2 (hdt rfl) hS (hA _ x a _ aA ha hp) (hA _ y b _ aA hb hf)
  ·simp at hk
 ·rename_i q ak sz i off f hp hf;split at hk
  ·rename_i jE eQ es hq;split at hk
   ·rename_i hh;obtain⟨rfl,rfl⟩:=hh;split at hk
    ·rename_i cs he;split at hk<;>simp at hk;obtain⟨rfl,rfl⟩:=hk;rename_i hh;exact FO hm hq he hh.1 hh.2.2 hh.2.1 rfl (hdt rfl) hS (hA _ x a _ aA ha hp) (hA _ y b _ aA hb hf)
    ·rename_i e0 hne he;split at hk<;>simp at hk;obtain⟨rfl,rfl⟩:=hk;rename_i hh;obtain⟨h1,rfl,h3⟩:=hh;have hcl:=D.Kj h3;have he0:e0.cells=[e0]:=by cases e0<;>first|rfl|exact absurd rfl (hne _)
     refine FO hm hq he (by rw[hcl,h1];rfl) (by rw[hcl];simp[h3]) (by rw[he0,h1];simp) (by rw[he0,hcl];rfl) (hdt rfl) hS (hA _ x a _ aA ha hp) (hA _ y b _ aA hb hf)
    ·simp at hk
   ·simp at hk
  ·simp at hk
 ·simp at hk
theorem aag {s:TypeId}{x:Operand}{i:Nat}(hc:aV P cx aL ⟨dst,.fieldAddr s x i,type,pos,after,guard⟩=some k)(hk:runK E rec draw st env k=some (v,st'))(hS:fB σ β I Wr wd w st)
  (hA:bX P E cx σ β I w st env aL ρ [x]):Yields P ⟨dst,.fieldAddr s x i,type,pos,after,guard⟩ ρ w (gW mn σ β I Wr wd w st st' v):=by
 simp only[aV]at hc;split at hc
 ·rename_i fs hs;split at hc
  ·rename_i fl hfl;split at hc
   ·rename_i a g m ha hg hm;split at hc<;>simp at hc;subst hc;rename_i h0;simp only[runK]at hk;split at hk<;>(try simp at hk)
    ·rename_i q o hp;obtain⟨rfl,rfl⟩:=hk;exact Q5 hs hfl hm h0 hS (hA _ x a _ aA ha hp)
    ·rename_i q ak sz j o hp;obtain⟨rfl,rfl⟩:=hk;exact Q6 hs hfl hm h0 hS (hA _ x a _ aA ha hp)
    ·rename_i y hp;split at hk<;>simp at hk;obtain⟨rfl,rfl⟩:=hk;rename_i d hd;exact M9 hs hfl hm h0 hd hS (hA _ x a _ aA ha hp)
   ·simp at hc
  ·simp at hc
 ·simp at hc
theorem Dw {x:Operand}{a:Addr}{y:FV}(hρ:ρ x=.pointer (some a))(hS:fB σ β I Wr wd w st)(hr:aH σ β I w st.base.length y (.pointer (some a))) :
  Yields P ⟨dst,.nilCheck x,type,pos,after,guard⟩ ρ w (gW mn σ β I Wr wd w st st y):=by
 refine aB (w':=w) ?_ (Post.same hS hr);simp[execOp,hρ]
theorem agE {x:Operand}(hc:aV P cx aL ⟨dst,.nilCheck x,type,pos,after,guard⟩=some k)(hk:runK E rec draw st env k=some (v,st'))(hS:fB σ β I Wr wd w st)
  (hA:bX P E cx σ β I w st env aL ρ [x]):Yields P ⟨dst,.nilCheck x,type,pos,after,guard⟩ ρ w (gW mn σ β I Wr wd w st st' v):=by
 simp only[aV]at hc;split at hc<;>simp at hc;subst hc;rename_i a ha;simp only[runK]at hk;split at hk<;>(try simp at hk)
 ·rename_i q o hp;obtain⟨rfl,rfl⟩:=hk;have hx:=hA _ x a _ aA ha hp;generalize hρ:ρ x=xv at hx;cases hx with
  | r hb=>exact Dw hρ hS (.r hb)
 ·rename_i q ak sz j o hp;obtain⟨rfl,rfl⟩:=hk;have hx:=hA _ x a _ aA ha hp;generalize hρ:ρ x=xv at hx;cases hx with
  | e hb=>exact Dw hρ hS (.e hb)
 ·rename_i y hp;split at hk<;>simp at hk;obtain⟨rfl,rfl⟩:=hk;rename_i d hd;have hx:=hA _ x a _ aA ha hp;generalize hρ:ρ x=xv at hx;cases hx with
  | rc hb ho hat=>exact Dw hρ hS (He hb ho hat hd)
theorem aah {s:TypeId}{x:Operand}{i:Nat}(hc:aV P cx aL ⟨dst,.field s x i,type,pos,after,guard⟩=some k)(hk:runK E rec draw st env k=some (v,st'))(hS:fB σ β I Wr wd w st)
  (hA:bX P E cx σ β I w st env aL ρ [x]):Yields P ⟨dst,.field s x i,type,pos,after,guard⟩ ρ w (gW mn σ β I Wr wd w st st' v):=by
 simp only[aV]at hc;split at hc
 ·rename_i fs hs;split at hc
  ·rename_i fl hfl;split at hc<;>simp at hc;subst hc;rename_i a g m ha hg hm;simp only[runK]at hk;split at hk<;>(try simp at hk)
   ·rename_i cs hp;split at hk<;>simp at hk;obtain⟨rfl,rfl⟩:=hk;rename_i hv;exact WC hs hfl hg hm hv hS (hA _ x a _ aA ha hp)
   ·rename_i cs hp;split at hk<;>simp at hk;obtain⟨rfl,rfl⟩:=hk;rename_i hv;exact WE hs hfl hg hm hv hS (hA _ x a _ aA ha hp)
  ·simp at hc
 ·simp at hc
end step
end
section
variable {mn:Prop}
section step
variable {P:Program} {E:Env} {cx:Cx} {σ:Nat->Option FuncId} {β:Map} {I Wr:Nat->Prop} {wd:Nat->Prop} {w:World} {st st':St} {env:List FV} {ρ:Operand->Value} {aL:List (Option Tmp)}
variable {rec:Nat->List FV->List ah->bF} {draw:Bool} {v:FV}
variable {type:TypeId} {dst:Option Tmp} {pos:String} {after:Array Edge} {guard:Option (Nat × Bool)} {k:K}
theorem aai {t:TypeId}{x ix:Operand}(hc:aV P cx aL ⟨dst,.indexAddr t x ix,type,pos,after,guard⟩=some k)(hk:runK E rec draw st env k=some (v,st'))(hS:fB σ β I Wr wd w st)
  (hA:bX P E cx σ β I w st env aL ρ [x,ix]):Yields P ⟨dst,.indexAddr t x ix,type,pos,after,guard⟩ ρ w (gW mn σ β I Wr wd w st st' v):=by
 simp only[aV]at hc;split at hc
 ·rename_i e ht;split at hc<;>simp at hc;subst hc;rename_i a b m ha hb hm;simp only[runK]at hk;split at hk
  ·rename_i q ak sz off l kk j hp hi;split at hk<;>simp at hk;obtain⟨rfl,rfl⟩:=hk;rename_i hh;obtain⟨rfl,h0,h1⟩:=hh;exact M_ ht hm h0 h1 hS (hA _ x a _ aA ha hp) (hA _ ix b _ aA hb hi)
  ·rename_i sz es kk j hp hi;split at hk
   ·rename_i hh;obtain⟨rfl,h0⟩:=hh;split at hk<;>simp at hk;obtain⟨rfl,rfl⟩:=hk;rename_i y hy;exact Q7 ht hm h0 hy hS (hA _ x a _ aA ha hp) (hA _ ix b _ aA hb hi)
   ·simp at hk
  ·simp at hk
 ·rename_i len e ht;split at hc<;>simp at hc;subst hc;rename_i a b m g ha hb hm hg;simp only[runK]at hk;split at hk
  ·rename_i q o kk j hp hi;split at hk<;>simp at hk;obtain⟨rfl,rfl⟩:=hk;rename_i hh;exact Q8 ht hm hh.1 hh.2 hS (hA _ x a _ aA ha hp) (hA _ ix b _ aA hb hi)
  ·rename_i q ak s i o kk j hp hi;split at hk<;>simp at hk;obtain⟨rfl,rfl⟩:=hk;rename_i hh;exact Q9 ht hm hh.1 hh.2 hS (hA _ x a _ aA ha hp) (hA _ ix b _ aA hb hi)
  ·rename_i y kk j hp hi;split at hk
   ·rename_i hh;split at hk<;>simp at hk;obtain⟨rfl,rfl⟩:=hk;rename_i d hd;exact Na ht hm hh.1 hh.2 hd hS (hA _ x a _ aA ha hp) (hA _ ix b _ aA hb hi)
   ·simp at hk
  ·simp at hk
 ·simp at hc
theorem aaj {t:TypeId}{x ix:Operand}(hc:aV P cx aL ⟨dst,.index t x ix,type,pos,after,guard⟩=some k)(hk:runK E rec draw st env k=some (v,st'))(hS:fB σ β I Wr wd w st)
  (hA:bX P E cx σ β I w st env aL ρ [x,ix]):Yields P ⟨dst,.index t x ix,type,pos,after,guard⟩ ρ w (gW mn σ β I Wr wd w st st' v):=by
 simp only[aV]at hc;split at hc
 ·rename_i len e ht;split at hc<;>simp at hc;subst hc;rename_i a b m g ha hb hm hg;simp only[runK]at hk;split at hk
  ·rename_i cs kk j hp hi;split at hk
   ·rename_i hh;split at hk<;>simp at hk;obtain⟨rfl,rfl⟩:=hk;rename_i d hd;exact aaa ht hg hm hh.1 hh.2 hd hS (hA _ x a _ aA ha hp) (hA _ ix b _ aA hb hi)
   ·simp at hk
  ·simp at hk
 ·rename_i ht;split at hc<;>simp at hc;subst hc;rename_i a b ha hb;simp only[runK]at hk;split at hk
  ·rename_i s kk j hp hi;split at hk
   ·rename_i h0;split at hk<;>simp at hk;obtain⟨rfl,rfl⟩:=hk;rename_i c hc';exact WG ht h0 hc' hS (hA _ x a _ aA ha hp) (hA _ ix b _ aA hb hi)
   ·simp at hk
  ·simp at hk
 ·simp at hc
theorem agF {x:Operand}{i:Nat}(hc:aV P cx aL ⟨dst,.extract x i,type,pos,after,guard⟩=some k)(hk:runK E rec draw st env k=some (v,st'))(hS:fB σ β I Wr wd w st)
  (hA:bX P E cx σ β I w st env aL ρ [x]):Yields P ⟨dst,.extract x i,type,pos,after,guard⟩ ρ w (gW mn σ β I Wr wd w st st' v):=by
 simp only[aV]at hc;split at hc<;>simp at hc;subst hc;rename_i a ha;simp only[runK]at hk;split at hk<;>(try simp at hk)
 ·rename_i vs hp;split at hk<;>simp at hk;obtain⟨rfl,rfl⟩:=hk;rename_i hv;exact adA hv hS (hA _ x a _ aA ha hp)
 ·rename_i vs hp;split at hk<;>simp at hk;obtain⟨rfl,rfl⟩:=hk;rename_i hv;exact adB hv hS (hA _ x a _ aA ha hp)
theorem ajj {t:TypeId}{x y:Operand}(bB:∀ f g,cx.gid f=some g->σ g=some f)(hc:aV P cx aL ⟨dst,.makeSlice t x y,type,pos,after,guard⟩=some k)(hk:runK E rec draw st env k=some (v,st'))(hS:fB σ β I Wr wd w st)
  (hA:bX P E cx σ β I w st env aL ρ [x,y]):Yields P ⟨dst,.makeSlice t x y,type,pos,after,guard⟩ ρ w (gW mn σ β I Wr wd w st st' v):=by
 simp only[aV]at hc;split at hc
 ·rename_i e ht;split at hc
  ·rename_i m b g z a a' hm hb hg hz ha ha';split at hc<;>simp at hc;subst hc;rename_i hh;simp only[not_or]at hh;obtain⟨h0,h1,h2⟩:=hh;simp only[runK]at hk;split at hk
   ·rename_i kl l kc c hp hq;split at hk<;>simp only[Qd2,Qm2,reduceCtorEq]at hk;obtain⟨rfl,rfl⟩:=hk;rename_i hh;obtain⟨g0,g1,g2,g3⟩:=hh;exact ajf bB ht hm hb hz ae (by simpa using h1) h2 g0 g1 g2 g3 hS (hA _ x a _ aA ha hp) (hA _ y a' _ aA ha' hq)
   ·simp at hk
  ·simp at hc
 ·simp at hc
theorem aak {t:TypeId}{x:Operand}{lo hi:Option Operand}(hc:aV P cx aL ⟨dst,.slice t x lo hi none,type,pos,after,guard⟩=some k)(hk:runK E rec draw st env k=some (v,st'))(hS:fB σ β I Wr wd w st)
  (hA:bX P E cx σ β I w st env aL ρ ([x]++lo.toList++hi.toList)):Yields P ⟨dst,.slice t x lo hi none,type,pos,after,guard⟩ ρ w (gW mn σ β I Wr wd w st st' v):=by
 have aal:∀ o,lo=some o->o ∈ [x]++lo.toList++hi.toList:=fun o h=>by subst h;simp
 have aam:∀ o,hi=some o->o ∈ [x]++lo.toList++hi.toList:=fun o h=>by subst h;simp
 simp only[aV]at hc;split at hc
 ·rename_i e ht;split at hc
  ·rename_i m a l h hm ha hl hh;split at hc<;>simp at hc;subst hc;simp only[runK]at hk;split at hk
   ·rename_i sz es hp;split at hk
    ·rename_i li hi' e1 e2;split at hk<;>simp at hk;obtain⟨rfl,rfl⟩:=hk;rename_i hb;obtain⟨rfl,b0,b1,b2⟩:=hb;exact Rh ht hm (iO hA aal hl e1) (iO hA aam hh e2) b0 b1 b2 hS (hA _ x a _ aA ha hp)
    ·simp at hk
   ·rename_i sz hp;split at hk
    ·rename_i li hi' e1 e2;split at hk<;>simp at hk;obtain⟨rfl,rfl⟩:=hk;rename_i hb;obtain⟨rfl,rfl,rfl⟩:=hb;exact Rf ht hm (iO hA aal hl e1) (iO hA aam hh e2) hS (hA _ x a _ aA ha hp)
    ·simp at hk
   ·rename_i q ak sz off n hp;split at hk
    ·rename_i li hi' e1 e2;split at hk<;>simp at hk;obtain⟨rfl,rfl⟩:=hk;rename_i hb;obtain⟨rfl,b0,b1,b2⟩:=hb;exact Nc ht hm (iO hA aal hl e1) (iO hA aam hh e2) b0 b1 b2 hS (hA _ x a _ aA ha hp)
    ·simp at hk
   ·simp at hk
  ·simp at hc
 ·rename_i ht;split at hc<;>simp at hc;subst hc;rename_i a l h ha hl hh;simp only[runK]at hk;split at hk
  ·rename_i s hp;split at hk
   ·rename_i li hi' e1 e2;split at hk<;>simp at hk;obtain⟨rfl,rfl⟩:=hk;rename_i hb;exact WM ht (iO hA aal hl e1) (iO hA aam hh e2) hb.1 hb.2.1 hb.2.2 hS (hA _ x a _ aA ha hp)
   ·simp at hk
  ·simp at hk
 ·simp at hc
theorem agG {f:FuncId}{first captured:Array Operand}(bB:∀ f g,cx.gid f=some g->σ g=some f)(hc:aV P cx aL ⟨dst,.makeFunc (.func f) first captured,type,pos,after,guard⟩=some k)(hk:runK E rec draw st env k=some (v,st')) 
  (hS:fB σ β I Wr wd w st) (hA:bX P E cx σ β I w st env aL ρ (first.toList++captured.toList)) :
  Yields P ⟨dst,.makeFunc (.func f) first captured,type,pos,after,guard⟩ ρ w (gW mn σ β I Wr wd w st st' v):=by
 simp only[aV]at hc;split at hc<;>simp at hc;subst hc;rename_i g fs cs hg hfs hcs;simp only[runK]at hk;split at hk
 ·rename_i fv cv h1 h2;have r1:=jD hA (fun x hx=>by simp at hx ⊢;exact .inl hx) hfs h1;have r2:=jD hA (fun x hx=>by simp at hx ⊢;exact .inr hx) hcs h2;have hy:=agy (mn:=mn) (P:=P) (dst:=dst) (type:=type) (pos:=pos) (after:=after) (guard:=guard) (first:=first) (captured:=captured) (bB _ _ hg) (by simpa using r1) (by simpa using r2) hS;split at hk<;>simp at hk
  ·obtain⟨rfl,rfl⟩:=hk;rename_i hh;rw[if_pos (by simpa using hh)]at hy;exact hy
  ·obtain⟨rfl,rfl⟩:=hk;rename_i hh;rw[if_neg (by simpa using hh)]at hy;exact hy
 ·simp at hk
theorem mapM_pure {agg:Bool}{sz:Nat}:∀ {xs:List FV} {ys:List D},xs.mapM (kR agg sz)=some ys->ys.length=xs.length/\∀ (i:Nat) (x:FV) (y:D),xs[i]?=some x->ys[i]?=some y->kR agg sz x=some y
 | [],ys,h=>by simp at h;subst h;exact⟨rfl,fun i x y h=>by simp at h⟩
 | x::xs,ys,h=>by
  rw[List.mapM_cons]at h;cases h1:kR agg sz x with
  | none=>rw[h1]at h;simp at h
  | some y =>
   cases h2:xs.mapM (kR agg sz) with
   | none=>rw[h1,h2]at h;simp at h
   | some s =>
    rw[h1,h2]at h;simp at h;subst h;obtain⟨a,b⟩:=mapM_pure h2;refine⟨by simp[a],fun i x' y' hx hy => ?_⟩;cases i with
    | zero=>simp at hx hy;subst hx;subst hy;exact h1
    | succ i=>exact b i x' y' (by simpa using hx) (by simpa using hy)
theorem agH {t:TypeId}{len:Nat}{parts:Array (Nat × Operand)}(bB:∀ f g,cx.gid f=some g->σ g=some f)(hc:aV P cx aL ⟨dst,.buildSlice t len parts,type,pos,after,guard⟩=some k)(hk:runK E rec draw st env k=some (v,st')) 
  (hS:fB σ β I Wr wd w st) (hA:bX P E cx σ β I w st env aL ρ (parts.toList.map (·.2))):Yields P ⟨dst,.buildSlice t len parts,type,pos,after,guard⟩ ρ w (gW mn σ β I Wr wd w st st' v):=by
 simp only[aV]at hc;split at hc
 ·rename_i e ht;split at hc
  ·rename_i m g z as hm hg hz has;split at hc<;>simp at hc;subst hc;rename_i hh;simp only[not_or]at hh;obtain⟨h0,h1,h2,h3,h4⟩:=hh;have hal:as.length=parts.toList.length:=by
    have:∀ (vk:List TypeId) (l:List Operand) (as:List Arg),gV P cx aL vk l=some as->as.length=l.length:=by
     intro vk l
     induction l generalizing vk with
     | nil=>intro as h;simp[gV]at h;subst h;rfl
     | cons x l ih =>
      intro as h;simp only[gV]at h;split at h<;>simp at h;subst h;rename_i h2;simp[ih _ _ h2]
    simpa using this _ _ _ has
   simp only[runK]at hk;have e1:(((parts.toList.map (·.1)).zip as).map (·.2))=as:=by
    rw[List.map_snd_zip];simp[hal]
   have e2:(((parts.toList.map (·.1)).zip as).map (·.1))=parts.toList.map (·.1):=by
    rw[List.map_fst_zip];simp[hal]
   rw[e1,e2]at hk;split at hk
   ·rename_i xs hxs;split at hk
    ·rename_i ys hys;split at hk
     ·rename_i es hes;have r1:=jD hA (fun x hx=>hx) has hxs;obtain⟨p1,p2⟩:=mapM_pure hys;have hy:=agx (mn:=mn) (ρ:=ρ) (dst:=dst) (type:=type) (pos:=pos) (after:=after) (guard:=guard) (parts:=parts) (ys:=ys) bB ht hm hz ae (by simpa using h3) h4 ae ae (by rw[p1,<-r1.1];simp)
       (fun i p y hp hy=>by
        have hlt:i<xs.length:=by rw[<-p1];exact(bq hy)
        have hx:xs[i]?=some xs[i]:=Qa1 _;have hpe:=p2 i _ y hx hy;exact Eo hpe (r1.2 i _ _ hx (by simp[hp]))) hes hS
      split at hk<;>simp at hk
      ·obtain⟨rfl,rfl⟩:=hk;rename_i hl;rw[if_pos hl]at hy;exact hy
      ·obtain⟨rfl,rfl⟩:=hk;rename_i hl;rw[if_neg hl]at hy;exact hy
     ·simp at hk
    ·simp at hk
   ·simp at hk
  ·simp at hc
 ·simp at hc
theorem xH {place:Nat->Option (Nat × TypeId)}{vG:Nat->Option (Nat × Nat)}(hpl:∀ i off ty m,place i=some (off,ty)->aX P ty=some m->vG i=some (off,m)){xs:List Operand}(hA:bX P E cx σ β I w st env aL ρ xs) :
  ∀ {parts:List (Nat × Operand)} {ps:List (Nat × Nat × Arg)} {fs:List FV},(∀ p ∈ parts,p.2 ∈ xs)->p8 P cx aL place parts=some ps->eZ E st env (ps.map (·.2.2))=some fs ->
   parts.length=((ps.map (·.1)).zip ((ps.map (·.2.1)).zip fs)).length /\
   ∀ (i:Nat) (p:Nat × Operand) (o:Nat × Nat × FV),parts[i]?=some p->((ps.map (·.1)).zip ((ps.map (·.2.1)).zip fs))[i]?=some o->vG p.1=some (o.1,o.2.1)/\aH σ β I w st.base.length o.2.2 (ρ p.2)
 | [],ps,fs,_,hc,hf=>by
  simp[p8]at hc;subst hc;exact⟨rfl,fun i p o h=>by simp at h⟩
 | (i,x)::parts,ps,fs,hm,hc,hf=>by
  simp only[p8]at hc;split at hc
  ·simp at hc
  ·rename_i off ty hp;split at hc<;>simp at hc;subst hc;rename_i m y s h1 h2 h3;simp only[Qe2,eZ]at hf;split at hf<;>simp at hf;subst hf;rename_i f fs' h4 h5;obtain⟨g1,g2⟩:=xH hpl hA (fun p hp=>hm p (by simp[hp])) h3 h5;refine⟨by simp at g1 ⊢;omega,fun j p o hj ho => ?_⟩;cases j with
   | zero =>
    simp at hj ho;subst hj;subst ho;exact⟨hpl i off ty m hp h1,hA _ x y f (hm (i,x) aA) h2 h4⟩
   | succ j=>exact g2 j p o (by simpa using hj) (by simpa using ho)
theorem aan {t:TypeId}{parts:Array (Nat × Operand)}(bB:∀ f g,cx.gid f=some g->σ g=some f)(hc:aV P cx aL ⟨dst,.build t parts,type,pos,after,guard⟩=some k)(hk:runK E rec draw st env k=some (v,st')) 
  (hS:fB σ β I Wr wd w st) (hA:bX P E cx σ β I w st env aL ρ (parts.toList.map (·.2))):Yields P ⟨dst,.build t parts,type,pos,after,guard⟩ ρ w (gW mn σ β I Wr wd w st st' v):=by
 have hmem:∀ p ∈ parts.toList,p.2 ∈ parts.toList.map (·.2):=fun p hp=>Qi1.2 ⟨p,hp,rfl⟩
 have fin:∀ (z:List D) (ps:List (Nat × Nat × Arg)) (place:Nat->Option (Nat × TypeId)) (vG:Nat->Option (Nat × Nat)),jX cx P t=some z->k=.build z ps->p8 P cx aL place parts.toList=some ps ->
   (∀ i off ty m,place i=some (off,ty)->aX P ty=some m->vG i=some (off,m)) ->
   ((∃ fs,P.underlying t=some (.struct fs)/\(∀ f ∈ fs.toList,(aX P f.type).isSome)/\vG=fun i=>(fs[i]?).map fun f=>(f.offset,(aX P f.type).getD 0)) \/
   (∃ len e sz,P.underlying t=some (.array len e)/\aX P e=some sz/\vG=fun i=>some (i*sz,sz))) ->
   Yields P ⟨dst,.build t parts,type,pos,after,guard⟩ ρ w (gW mn σ β I Wr wd w st st' v):=by
  intro z ps place vG hz hke hps hpl ht;subst hke;simp only[runK]at hk;split at hk
  ·rename_i xs hxs;split at hk<;>simp at hk;obtain⟨rfl,rfl⟩:=hk;rename_i cs hcs;obtain⟨q1,q2⟩:=xH hpl hA hmem hps hxs;exact aac bB hz ht q1 q2 hcs hS
  ·simp at hk
 simp only[aV]at hc;split at hc
 ·rename_i fs z ht hz;split at hc
  ·simp at hc
  ·rename_i hall;split at hc<;>simp at hc;rename_i ps hps;refine fin z ps _ (fun i=>(fs[i]?).map fun f=>(f.offset,(aX P f.type).getD 0)) hz hc.symm hps ?_ (.inl ⟨fs,ht,?_,rfl⟩)
   ·intro i off ty m h1 h2;split at h1
    ·rename_i f hf;cases h1;simp[hf,h2]
    ·cases h1
   ·intro f hf;cases hs:aX P f.type with
    | some m=>rfl
    | none=>exact absurd (Xd2.2 ⟨f,hf,by simp[hs]⟩) hall
 ·rename_i len e z ht hz;split at hc
  ·rename_i m hm;split at hc<;>simp at hc;rename_i ps hps;refine fin z ps _ (fun i=>some (i*m,m)) hz hc.symm hps ?_ (.inr ⟨len,e,m,ht,hm,rfl⟩);intro i off ty m' h1 h2;cases h1;rw[hm]at h2;cases h2;rfl
  ·simp at hc
 ·simp at hc
theorem lF {P:Program}{f:FV}{x:Value}{r:Nat}(hr:aH σ β I w st.base.length f x)(hf:(∃ sz,f=.d (.n sz)/\r=0)\/(∃ sz es,f=.d (.s sz es)/\r=es.length)\/(∃ q ak sz off,f=.ls q ak sz off r)) :
  ∃ a c,x=.slice a r c:=by
 rcases hf with ⟨sz,rfl,rfl⟩|⟨sz,es,rfl,rfl⟩|⟨q,ak,sz,off,rfl⟩
 ·exact⟨_,_,nL hr⟩
 ·cases hr with
  | d h=>cases h with
   | s0=>exact⟨_,_,rfl⟩
   | s1=>exact⟨_,_,rfl⟩
   | s u h1 h2 h3 h4 h5 h6=>exact⟨_,_,rfl⟩
 ·obtain⟨b,bo,cap,o,h1,h2,h3,h4⟩:=yN hr;exact⟨_,_,h4⟩
theorem Rn {b:Builtin}{vk:Array TypeId}{args:Array Operand}(bB:∀ f g,cx.gid f=some g->σ g=some f)(hc:aV P cx aL ⟨dst,.call {callee:=.builtin b,args:=args,argTypes:=vk},type,pos,after,guard⟩=some k)
  (hk:runK E rec draw st env k=some (v,st')) (hdt:k.loud draw=true->jb st.base.length st' wd) (hS:fB σ β I Wr wd w st) (hA:bX P E cx σ β I w st env aL ρ args.toList) :
  Yields P ⟨dst,.call {callee:=.builtin b,args:=args,argTypes:=vk},type,pos,after,guard⟩ ρ w (gW mn σ β I Wr wd w st st' v):=by
 simp only[aV]at hc;split at hc
 ·rename_i t x e1 e2;have h1:vk=#[t]:=by apply Q2;simpa using e1
  have h2:args=#[x]:=by apply Q2;simpa using e2
  subst h1;subst h2;split at hc
  ·rename_i e ht;simp at hc;obtain⟨a,ha,hke⟩:=hc;subst hke;simp only[runK]at hk;have hr:=fun f hf=>hA _ x a f aA ha hf
   split at hk<;>simp only[Qd2,Qm2,reduceCtorEq]at hk
   ·rename_i sz hp;obtain⟨rfl,rfl⟩:=hk;obtain⟨aa,c,hx⟩:=lF (P:=P) (r:=0) (hr _ hp) (.inl ⟨_,rfl,rfl⟩);exact rZ ht hx hS
   ·rename_i sz es hp;obtain⟨rfl,rfl⟩:=hk;obtain⟨aa,c,hx⟩:=lF (P:=P) (r:=es.length) (hr _ hp) (.inr (.inl ⟨_,_,rfl,rfl⟩));exact rZ ht hx hS
   ·rename_i q ak sz off n hp;obtain⟨rfl,rfl⟩:=hk;obtain⟨aa,c,hx⟩:=lF (P:=P) (r:=n) (hr _ hp) (.inr (.inr ⟨_,_,_,_,rfl⟩));exact rZ ht hx hS
  ·rename_i ht;simp at hc;obtain⟨a,ha,hke⟩:=hc;subst hke;simp only[runK]at hk;split at hk<;>simp only[Qd2,Qm2,reduceCtorEq]at hk;rename_i s hp;obtain⟨rfl,rfl⟩:=hk;exact Hf ht (hA _ x a _ aA ha hp).val hS
  ·simp at hc
 ·rename_i t x e1 e2;have h1:vk=#[t]:=by apply Q2;simpa using e1
  have h2:args=#[x]:=by apply Q2;simpa using e2
  subst h1;subst h2;split at hc
  ·rename_i e ht;simp at hc;obtain⟨a,ha,hke⟩:=hc;subst hke;simp only[runK]at hk;split at hk<;>simp only[Qd2,Qm2,reduceCtorEq]at hk;rename_i sz hp;obtain⟨rfl,rfl⟩:=hk;exact Re ht (hA _ x a _ aA ha hp) hS
  ·simp at hc
 ·rename_i t x e1 e2;have h1:vk=#[t]:=by apply Q2;simpa using e1
  have h2:args=#[x]:=by apply Q2;simpa using e2
  subst h1;subst h2;split at hc
  ·rename_i e ht;split at hc
   ·rename_i m g z a hm hg hz ha;split at hc<;>simp at hc;subst hc;rename_i hh;simp only[not_or]at hh;obtain⟨h0,hzl,hgg⟩:=hh;simp only[runK]at hk;split at hk
    ·rename_i eQ hp;split at hk<;>simp only[Qd2,Qm2,reduceCtorEq]at hk;obtain⟨rfl,rfl⟩:=hk;obtain⟨aa,c,hx⟩:=lF (P:=P) (r:=0) (hA _ x a _ aA ha hp) (.inl ⟨_,rfl,rfl⟩);exact xE (f:=.u) ht hx hS
    ·rename_i q ak eQ off n hp;split at hk
     ·rename_i hn0;subst hn0;simp only[Qd2,Qm2]at hk;obtain⟨rfl,rfl⟩:=hk;obtain⟨aa,c,hx⟩:=lF (P:=P) (r:=0) (hA _ x a _ aA ha hp) (.inr (.inr ⟨_,_,_,_,rfl⟩));exact xE (f:=.u) ht hx hS
     ·rename_i hn0;split at hk
      ·rename_i jE WA es hrow;split at hk<;>simp only[Qd2,Qm2,reduceCtorEq]at hk;obtain⟨rfl,rfl⟩:=hk;rename_i hg2;obtain⟨rfl,rfl,rfl,g1⟩:=hg2;exact aab bB ht hm hz (by simpa using hzl) hgg ae hrow g1 (hdt rfl) hS (hA _ x a _ aA ha hp)
      ·simp at hk
    ·simp at hk
   ·simp at hc
  ·simp at hc
 ·rename_i t u x y e1 e2;have h1:vk=#[t,u]:=by apply Q2;simpa using e1
  have h2:args=#[x,y]:=by apply Q2;simpa using e2
  subst h1;subst h2;split at hc<;>simp at hc;subst hc;rename_i a b' _ ha hb;simp only[runK]at hk;split at hk<;>simp at hk;obtain⟨rfl,rfl⟩:=hk;rename_i hp hq;exact adE hS (hA _ x a _ aA ha hp).val (hA _ y b' _ aA hb hq).val
 ·rename_i t u x y e1 e2;have h1:vk=#[t,u]:=by apply Q2;simpa using e1
  have h2:args=#[x,y]:=by apply Q2;simpa using e2
  subst h1;subst h2;split at hc<;>simp at hc;subst hc;rename_i a b' _ ha hb;simp only[runK]at hk;split at hk<;>simp at hk;obtain⟨rfl,rfl⟩:=hk;rename_i hp hq;exact adF hS (hA _ x a _ aA ha hp).val (hA _ y b' _ aA hb hq).val
 ·rename_i t u x y e1 e2;have h1:vk=#[t,u]:=by apply Q2;simpa using e1
  have h2:args=#[x,y]:=by apply Q2;simpa using e2
  subst h1;subst h2;split at hc
  ·rename_i e k0 ht hu;split at hc
   ·rename_i m bb g z a a' hm hb hg hz ha ha';split at hc<;>simp at hc;subst hc;rename_i hh;simp only[not_or]at hh;obtain⟨h0,hzl,hgg⟩:=hh;simp only[runK]at hk;split at hk
    ·rename_i eQ kk l hp hq;split at hk<;>simp only[Qd2,Qm2,reduceCtorEq]at hk;obtain⟨rfl,rfl⟩:=hk;rename_i hc2;obtain⟨rfl,c1,c2,c3⟩:=hc2;exact adD bB ht hu hm hb hz ae (by simpa using hzl) hgg c1 c2 c3 hS (hA _ x a _ aA ha hp) (hA _ y a' _ aA ha' hq)
    ·simp at hk
   ·simp at hc
  ·rename_i e e' ht hu;split at hc
   ·split at hc
    ·rename_i m bb z a a' hm hb hz ha ha';split at hc<;>simp at hc;subst hc;rename_i hh;simp only[not_or]at hh;obtain⟨h0,hzl⟩:=hh;simp only[runK]at hk;split at hk
     ·rename_i fx fy hp hq;split at hk
      ·simp at hk
      ·rename_i ys hys;split at hk
       ·rename_i eQ;split at hk
        ·rename_i hg;obtain⟨rfl,g1,g2⟩:=hg;have hy:=Ra (mn:=mn) (dst:=dst) (type:=type) (pos:=pos) (after:=after) (guard:=guard) (t:=t) (u:=u) bB ht hu hm hb hz (by simpa using hzl) ae hys g1 g2 hS (hA _ x a _ aA ha hp) (hA _ y a' _ aA ha' hq);split at hk<;>simp at hk
         ·obtain⟨rfl,rfl⟩:=hk;rename_i hemp;rw[if_pos hemp]at hy;exact hy
         ·obtain⟨rfl,rfl⟩:=hk;rename_i hemp;rw[if_neg hemp]at hy;exact hy
        ·simp at hk
       ·rename_i q ak eQ off n;split at hk
        ·rename_i jE WA es hrow;split at hk<;>simp at hk;obtain⟨rfl,rfl⟩:=hk;rename_i hg;obtain⟨rfl,rfl,rfl,g1,g2,g3⟩:=hg;exact WK bB ht hu hm hb hz (by simpa using hzl) hrow g1 hys g2 g3 (hdt (by cases a<;>first|rfl|(simp[di]at hp))) hS (hA _ x a _ aA ha hp) (hA _ y a' _ aA ha' hq)
        ·simp at hk
       ·simp at hk
     ·simp at hk
    ·simp at hc
   ·simp at hc
  ·simp at hc
 ·simp at hc
theorem aao {t:TypeId}{r:Option Operand}(hc:aV P cx aL ⟨dst,.makeMap t r,type,pos,after,guard⟩=some k)(hk:runK E rec draw st env k=some (v,st'))(hS:fB σ β I Wr wd w st) :
  Yields P ⟨dst,.makeMap t r,type,pos,after,guard⟩ ρ w (gW mn σ β I Wr wd w st st' v):=by
 cases r with
 | some r=>simp[aV]at hc
 | none =>
  simp only[aV]at hc;split at hc<;>simp at hc;subst hc;simp only[runK,Qd2,Qm2]at hk;obtain⟨rfl,rfl⟩:=hk;exact aae hS
theorem adK {t:TypeId}{x ix:Operand}{ok:Bool}(bB:∀ f g,cx.gid f=some g->σ g=some f)(hc:aV P cx aL ⟨dst,.lookup t x ix ok,type,pos,after,guard⟩=some k)(hk:runK E rec draw st env k=some (v,st'))(hS:fB σ β I Wr wd w st)
  (hA:bX P E cx σ β I w st env aL ρ [x,ix]):Yields P ⟨dst,.lookup t x ix ok,type,pos,after,guard⟩ ρ w (gW mn σ β I Wr wd w st st' v):=by
 simp only[aV]at hc;split at hc
 ·rename_i kt e ht;split at hc<;>simp at hc;subst hc;rename_i a b z kind ha hb hz hT;simp only[runK]at hk;split at hk
  ·rename_i q kd hq hkd;split at hk
   ·rename_i hok;split at hk
    ·rename_i es hes;have hx:=hA _ x a _ aA ha hq;have hi:=hA _ ix b _ aA hb hkd;split at hk
     ·rename_i y hy;cases hk;exact WO bB ht hT hz hok hes hy hS hx hi
     ·rename_i hy;cases hk;exact WO bB ht hT hz hok hes hy hS hx hi
     ·cases hk
    ·cases hk
   ·cases hk
  ·cases hk
 ·cases hc
theorem adM {t:TypeId}{m ix x:Operand}(hc:aV P cx aL ⟨dst,.mapUpdate t m ix x,type,pos,after,guard⟩=some k)(hk:runK E rec draw st env k=some (v,st'))(hdt:k.loud draw=true->jb st.base.length st' wd)(hS:fB σ β I Wr wd w st)
  (hA:bX P E cx σ β I w st env aL ρ [m,ix,x]):Yields P ⟨dst,.mapUpdate t m ix x,type,pos,after,guard⟩ ρ w (gW mn σ β I Wr wd w st st' v):=by
 simp only[aV]at hc;split at hc
 ·rename_i kt e ht;split at hc<;>simp at hc;subst hc;rename_i a b c kind ha hb hcc hT;have hd:=hdt rfl;simp only[runK]at hk;split at hk
  ·rename_i q kd u hq hkd hu;split at hk
   ·rename_i hok;split at hk
    ·rename_i es hes;split at hk
     ·rename_i es' hy;cases hk;exact adG ht hT hok hes hy hd hS (hA _ m a _ aA ha hq) (hA _ ix b _ aA hb hkd) (hA _ x c _ aA hcc hu)
     ·cases hk
    ·cases hk
   ·cases hk
  ·cases hk
 ·cases hc
end step
end
section
theorem eU (n:Nat):∀ l:List FV,FV.aP n l=l.map (FV.az n)
 | []=>by rw[FV.aP];rfl
 | x::l=>by rw[FV.aP,eU n l];rfl
theorem oQ (m:Nat):∀ l:List FV,FV.f_ m l=l.map (FV.shift m)
 | []=>by rw[FV.f_];rfl
 | x::l=>by rw[FV.f_,oQ m l];rfl
section trans
variable {σ:Nat->Option FuncId} {β:Map} {I:Nat->Prop} {w:World} {n:Nat}
theorem aH.az {v:FV}{x:Value}(h:aH σ β I w n v x)(n':Nat):aH σ β I w n' (v.az n) x:=by
 induction h with
 | u x=>simp only[FV.az];exact .u x
 | d h=>simp only[FV.az];exact .d h
 | r h =>
  rename_i p off b bo cap;cases p<;>simp only[FV.az]<;>exact .r (p:=.old _) h
 | e h =>
  rename_i p ak sz i off b bo cap;cases p<;>simp only[FV.az]<;>exact .e (p:=.old _) h
 | rc hb ho h=>simp only[FV.az];exact .rc hb ho h
 | ls h hl ho =>
  rename_i p ak sz off len b bo cap o;cases p<;>simp only[FV.az]<;>exact .ls (p:=.old _) h hl ho
 | m h =>
  rename_i p b bo cap;cases p<;>simp only[FV.az]<;>exact .m (p:=.old _) h
 | z=>simp only[FV.az];exact .z
 | f h h1 h2 _ _ ih1 ih2 =>
  simp only[FV.az,eU];refine .f h (by simpa using h1) (by simpa using h2) (fun i c x hc hx => ?_) (fun i c x hc hx => ?_)
  ·simp only[Qb2,Qf2]at hc;obtain⟨d,hd,rfl⟩:=hc;exact ih1 i d x hd hx
  ·simp only[Qb2,Qf2]at hc;obtain⟨d,hd,rfl⟩:=hc;exact ih2 i d x hd hx
 | a hl _ ih =>
  simp only[FV.az,eU];refine .a (by simpa using hl) (fun i c x hc hx => ?_);simp only[Qb2,Qf2]at hc;obtain⟨d,hd,rfl⟩:=hc;exact ih i d x hd hx
 | t hl _ ih =>
  simp only[FV.az,eU];refine .t (by simpa using hl) (fun i c x hc hx => ?_);simp only[Qb2,Qf2]at hc;obtain⟨d,hd,rfl⟩:=hc;exact ih i d x hd hx
theorem aH.shift {v:FV}{x:Value}(h:aH σ β I w 0 v x){β':Map}{n m:Nat}(hβ:∀ i ak y,β i ak=some y->β' (n+(m+i)) ak=some y):aH σ β' I w n (v.shift m) x:=by
 generalize hz:0=z at h
 induction h with
 | u x=>simp only[FV.shift];exact .u x
 | d h=>simp only[FV.shift];exact .d h
 | r h =>
  subst hz;rename_i p off b bo cap;cases p<;>simp only[FV.shift]<;>exact .r (p:=.loc _) (hβ _ _ _ (by simpa[Ref.abs] using h))
 | e h =>
  subst hz;rename_i p ak sz i off b bo cap;cases p<;>simp only[FV.shift]<;>exact .e (p:=.loc _) (hβ _ _ _ (by simpa[Ref.abs] using h))
 | rc hb ho h=>simp only[FV.shift];exact .rc hb ho h
 | ls h hl ho =>
  subst hz;rename_i p ak sz off len b bo cap o;cases p<;>simp only[FV.shift]<;>exact .ls (p:=.loc _) (hβ _ _ _ (by simpa[Ref.abs] using h)) hl ho
 | m h =>
  subst hz;rename_i p b bo cap;cases p<;>simp only[FV.shift]<;>exact .m (p:=.loc _) (hβ _ _ _ (by simpa[Ref.abs] using h))
 | z=>simp only[FV.shift];exact .z
 | f h h1 h2 _ _ ih1 ih2 =>
  simp only[FV.shift,oQ];refine .f h (by simpa using h1) (by simpa using h2) (fun i c x hc hx => ?_) (fun i c x hc hx => ?_)
  ·simp only[Qb2,Qf2]at hc;obtain⟨d,hd,rfl⟩:=hc;exact ih1 i d x hd hx
  ·simp only[Qb2,Qf2]at hc;obtain⟨d,hd,rfl⟩:=hc;exact ih2 i d x hd hx
 | a hl _ ih =>
  simp only[FV.shift,oQ];refine .a (by simpa using hl) (fun i c x hc hx => ?_);simp only[Qb2,Qf2]at hc;obtain⟨d,hd,rfl⟩:=hc;exact ih i d x hd hx
 | t hl _ ih =>
  simp only[FV.shift,oQ];refine .t (by simpa using hl) (fun i c x hc hx => ?_);simp only[Qb2,Qf2]at hc;obtain⟨d,hd,rfl⟩:=hc;exact ih i d x hd hx
end trans
section pY
variable {σ:Nat->Option FuncId} {β:Map} {I Wr:Nat->Prop} {wd:Nat->Prop} {w:World} {n:Nat} {H:List ah}
theorem aY.adN (h:aY σ n β I Wr wd H w){I':Nat->Prop}(hm:∀ b,I b->I' b)(hlt:∀ b,I' b->b<w.heap.size)(hn:∀ (k:Nat) (o:ah) b bo cap,H[k]?=some o->o.live β k=some (b,bo,cap)->¬ I' b) :
  aY σ n β I' Wr wd H w:=by
 refine⟨hlt,h.blt,h.jW,h.dom,h.l_,fun k o b bo cap h1 h2=>⟨(h.wr k o b bo cap h1 h2).1,hn k o b bo cap h1 h2⟩,?_,?_,?_,h.inj,?_⟩
 ·intro k cs b bo cap h1 h2;obtain⟨a0,c,e',a1,a2,a3⟩:=h.box k cs b bo cap h1 h2;exact⟨a0,c,e',a1,a2,fun j f x e1 e2=>(a3 j f x e1 e2).mono (fun _ _ _ h=>h) hm (fun _ _=>rfl)⟩
 ·intro k ak eQ es b bo cap h1 h2;obtain⟨a0,c,e',a1,a2⟩:=h.row k ak eQ es b bo cap h1 h2;exact⟨a0.mono hm (fun _ _=>rfl) rfl,c,e',a1,a2⟩
 ·intro k ak eQ es b bo cap h1 h2;obtain⟨a0,a1⟩:=h.gK k ak eQ es b bo cap h1 h2;exact⟨a0.mono hm (fun _ _=>rfl) rfl,hm _ a1⟩
 ·intro k es b bo cap h1 h2;obtain⟨ms,clock,a1,a2⟩:=h.map k es b bo cap h1 h2;exact⟨ms,clock,a1,a2.mono hm (fun _ _=>rfl)⟩
theorem aY.afd (h:aY σ n β I Wr wd H w){n':Nat}{Wr':Nat->Prop}{wd':Nat->Prop}(hnew:∀ b,w.heap.size<=b->Wr' b)
  (hw:∀ (k:Nat) (o:ah) b bo cap,H[k]?=some o->o.live β k=some (b,bo,cap)->wd' k->Wr' b)
  (Ro:∀ (k:Nat) cs b bo cap,H[k]?=some (.box cs)->β k 0=some (b,bo,cap)->∀ (j:Nat) (f:FV) (x:Value),cs[j]?=some f->aH σ β I w n f x->aH σ β I w n' f x):aY σ n' β I Wr' wd' H w:=by
 refine⟨h.lH,h.blt,hnew,h.dom,h.l_,fun k o b bo cap h1 h2=>⟨hw k o b bo cap h1 h2,(h.wr k o b bo cap h1 h2).2⟩,?_,h.row,h.gK,h.inj,h.map⟩;intro k cs b bo cap h1 h2;obtain⟨a0,c,e',a1,a2,a3⟩:=h.box k cs b bo cap h1 h2;exact⟨a0,c,e',a1,a2,fun j f x e1 e2=>Ro k cs b bo cap h1 h2 j f x e1 (a3 j f x e1 e2)⟩
theorem aY.aaq (h:aY σ n β I Wr wd H w){k ak sz:Nat}{es:List D}(hk:H[k]?=some (.row ak sz es)) :
  aY σ n β (fun b=>I b\/∃ bo cap,β k ak=some (b,bo,cap)) Wr wd (H.set k (.gK ak sz es)) w:=by
 have hkl:k<H.length:=(bq hk)
 have hm:∀ b,I b->(I b\/∃ bo cap,β k ak=some (b,bo,cap)):=fun b hb=>.inl hb
 have hget:∀ (k1:Nat) (o1:ah),(H.set k (.gK ak sz es))[k1]?=some o1->(k1≠k/\H[k1]?=some o1)\/(k1=k/\o1=.gK ak sz es):=by
  intro k1 o1 h1
  by_cases hc:k1=k
  ·subst hc;rw[Qf0 hkl]at h1;exact .inr ⟨rfl,by simpa using h1.symm⟩
  ·rw[Qd0 (Ne.symm hc)]at h1;exact .inl ⟨hc,h1⟩
 refine⟨?_,h.blt,h.jW,?_,?_,?_,?_,?_,?_,?_,?_⟩
 ·rintro b (hb|⟨bo,cap,hb⟩)
  ·exact h.lH b hb
  ·exact h.blt _ _ _ _ _ hb
 ·intro k1 v x hx;rw[Xi0];exact h.dom k1 v x hx
 ·intro k1 aar sz1 es1 v x h1 h2;rcases hget k1 _ h1 with ⟨_,h3⟩|⟨rfl,h3⟩
  ·exact h.l_ _ _ _ _ _ _ h3 h2
  ·cases h3
 ·intro k1 o b bo cap h1 h2;rcases hget k1 _ h1 with ⟨hc,h3⟩|⟨rfl,rfl⟩
  ·obtain⟨a1,a2⟩:=h.wr k1 o b bo cap h3 h2;refine⟨a1,?_⟩;rintro(hb|⟨vC,cap',hb⟩)
   ·exact a2 hb
   ·exact hc (h.inj k1 k o (.row ak sz es) b bo cap vC cap' h3 hk h2 hb)
  ·cases h2
 ·intro k1 cs b bo cap h1 h2;rcases hget k1 _ h1 with ⟨_,h3⟩|⟨rfl,h3⟩
  ·obtain⟨a0,c,e',a1,a2,a3⟩:=h.box k1 cs b bo cap h3 h2;exact⟨a0,c,e',a1,a2,fun j f x e1 e2=>(a3 j f x e1 e2).mono (fun _ _ _ h=>h) hm (fun _ _=>rfl)⟩
  ·cases h3
 ·intro k1 aar sz1 es1 b bo cap h1 h2;rcases hget k1 _ h1 with ⟨_,h3⟩|⟨rfl,h3⟩
  ·obtain⟨a0,c,e',a1,a2⟩:=h.row k1 aar sz1 es1 b bo cap h3 h2;exact⟨a0.mono hm (fun _ _=>rfl) rfl,c,e',a1,a2⟩
  ·cases h3
 ·intro k1 aar sz1 es1 b bo cap h1 h2;rcases hget k1 _ h1 with ⟨_,h3⟩|⟨rfl,h3⟩
  ·obtain⟨a0,a1⟩:=h.gK k1 aar sz1 es1 b bo cap h3 h2;exact⟨a0.mono hm (fun _ _=>rfl) rfl,hm _ a1⟩
  ·cases h3;obtain⟨a0,_⟩:=h.row k1 ak sz es b bo cap hk h2;exact⟨a0.mono hm (fun _ _=>rfl) rfl,.inr ⟨bo,cap,h2⟩⟩
 ·intro k1 k2 o1 o2 b bo cap vC cap' h1 h2 h3 h4;rcases hget k1 _ h1 with ⟨_,h5⟩|⟨rfl,rfl⟩
  ·rcases hget k2 _ h2 with ⟨_,h6⟩|⟨rfl,rfl⟩
   ·exact h.inj k1 k2 o1 o2 b bo cap vC cap' h5 h6 h3 h4
   ·cases h4
  ·cases h3
 ·intro k1 es b bo cap h1 h2;rcases hget k1 _ h1 with ⟨_,h3⟩|⟨rfl,h3⟩
  ·obtain⟨ms,clock,a1,a2⟩:=h.map k1 es b bo cap h3 h2;exact⟨ms,clock,a1,a2.mono hm (fun _ _=>rfl)⟩
  ·cases h3
end pY
section freeze
variable {σ:Nat->Option FuncId} {β:Map} {Wr:Nat->Prop} {wd:Nat->Prop} {w:World}
structure Dx (σ:Nat->Option FuncId)(β:Map)(I I' Wr:Nat->Prop)(wd:Nat->Prop)(st st':St)(w:World)(rs:List Ref):Prop where
 pY:aY σ st.base.length β I' Wr wd (st'.base++st'.loc) w
 im:∀ b,I b->I' b
 base:st'.base.length=st.base.length
 len:st'.loc.length=st.loc.length
 ik:∀ b,I' b->I b\/∃ k o bo cap,(st.base++st.loc)[k]?=some o/\o.live β k=some (b,bo,cap)/\(st'.aS=true\/st.base.length<=k)
 keep:∀ (k:Nat) (o:ah),(st.base++st.loc)[k]?=some o->(st'.base++st'.loc)[k]?=some o\/∃ ak sz es,o=.row ak sz es/\(st'.base++st'.loc)[k]?=some (.gK ak sz es)
 back:∀ (k:Nat) (o:ah),(st'.base++st'.loc)[k]?=some o->(st.base++st.loc)[k]?=some o\/∃ ak sz es,o=.gK ak sz es/\(st.base++st.loc)[k]?=some (.row ak sz es)
 all:∀ p ∈ rs,∀ ak sz es,(st.base++st.loc)[p.abs st.base.length]?=some (.row ak sz es)->(st'.base++st'.loc)[p.abs st.base.length]?=some (.gK ak sz es)
theorem iP:∀ (rs:List Ref) {I:Nat->Prop} {st:St},fB σ β I Wr wd w st->∃ I',Dx σ β I I' Wr wd st (aJ st rs) w rs
 | [],I,st,h=>⟨I,h,fun _ h=>h,rfl,rfl,fun _ h=>.inl h,fun _ _ h=>.inl h,fun _ _ h=>.inl h,fun p hp=>by simp at hp⟩
 | p::rs,I,st,h=>by
  simp only[aJ];split
  ·rename_i ak sz es hp;rw[St.fu]at hp;have h1:=h.aaq hp;have hb:=St.jO st p (.gK ak sz es);rw[<-St.dE,<-hb]at h1;obtain⟨I',f⟩:=iP rs h1;have hset:=St.dE st p (.gK ak sz es);have hkl:=(bq hp)
   have hget:∀ (k:Nat),(((st.bu p (.gK ak sz es)).base++(st.bu p (.gK ak sz es)).loc))[k]?=if k=p.abs st.base.length then some (.gK ak sz es) else(st.base++st.loc)[k]?:=by
    intro k;rw[hset]
    by_cases hk:k=p.abs st.base.length
    ·rw[if_pos hk,hk,Qf0 hkl]
    ·rw[if_neg hk,Qd0 (Ne.symm hk)]
   refine⟨I',by rw[<-hb];exact f.pY,fun b hb=>f.im b (.inl hb),f.base.trans hb,f.len.trans (nO _ _ _),?_,?_,?_,?_⟩
   ·intro b hI';rcases f.ik b hI' with (hI|⟨bo,cap,hβ⟩)|⟨k,o,bo,cap,g1,g2,g3⟩
    ·exact .inl hI
    ·rw[hb]at hβ;refine .inr ⟨_,_,bo,cap,hp,hβ,?_⟩;cases p with
     | loc i=>exact .inr (Nat.le_add_right _ _)
     | old i=>exact .inl ((Kept.aJ rs _).aS rfl)
    ·rw[hget]at g1;split at g1
     ·cases g1;cases g2
     ·exact .inr ⟨k,o,bo,cap,g1,g2,by rw[hb]at g3;exact g3⟩
   ·intro k o hk
    by_cases hkp:k=p.abs st.base.length
    ·subst hkp;rw[hp]at hk;cases hk;have:=f.keep (p.abs st.base.length) (.gK ak sz es) (by rw[hget,if_pos rfl]);rcases this with h|⟨_,_,_,h,_⟩
     ·exact .inr ⟨ak,sz,es,rfl,h⟩
     ·cases h
    ·exact f.keep k o (by rw[hget,if_neg hkp];exact hk)
   ·intro k o hk;rcases f.back k o hk with h2|⟨jE,eQ,es',h2,h3⟩
    ·rw[hget]at h2;split at h2
     ·rename_i hkp;cases h2;exact .inr ⟨ak,sz,es,rfl,by rw[hkp];exact hp⟩
     ·exact .inl h2
    ·rw[hget]at h3;split at h3
     ·cases h3
     ·exact .inr ⟨jE,eQ,es',h2,h3⟩
   ·intro q hq jE eQ es' hrow
    by_cases Rp:q.abs st.base.length=p.abs st.base.length
    ·rw[Rp,hp]at hrow;cases hrow;have:=f.keep (p.abs st.base.length) (.gK ak sz es) (by rw[hget,if_pos rfl]);rw[Rp];rcases this with h|⟨_,_,_,h,_⟩
     ·exact h
     ·cases h
    ·rcases Qi2.1 hq with rfl|hq
     ·exact absurd rfl Rp
     ·have:=f.all q hq jE eQ es' (by rw[hb,hget,if_neg Rp];exact hrow);rw[hb]at this;exact this
  ·rename_i hne;obtain⟨I',f⟩:=iP rs h;refine⟨I',f.pY,f.im,f.base,f.len,f.ik,f.keep,f.back,?_⟩;intro q hq ak sz es hrow;rcases Qi2.1 hq with rfl|hq
   ·exact absurd (by rw[St.fu];exact hrow) (hne ak sz es)
   ·exact f.all q hq ak sz es hrow
end freeze
end
section
variable {mn:Prop}
section leave
variable {σ:Nat->Option FuncId} {β:Map} {I I' Wr:Nat->Prop} {wd:Nat->Prop} {w:World} {st st':St}
theorem GX {p:Ref}{ak sz off len:Nat}{x:Value}{es:List D}(hS:fB σ β I Wr wd w st)
  (hp:st.heap p=some (.row ak sz es)\/st.heap p=some (.gK ak sz es)) (hle:off+len<=es.length) (hr:aH σ β I w st.base.length (.ls p ak sz off len) x)
  (hm:∀ b,I b->I' b) (hI:∀ b bo cap,β (p.abs st.base.length) ak=some (b,bo,cap)->I' b):bD σ I' w (.s sz ((es.drop off).take len)) x:=by
 obtain⟨b,bo,cap,o,hβ,hlc,H5,rfl⟩:=yN hr;have hat:iY σ I w b bo cap sz es:=by
  rw[St.fu]at hp;rcases hp with hp|hp
  ·exact(hS.row _ _ _ _ _ _ _ hp hβ).1
  ·exact(hS.gK _ _ _ _ _ _ _ hp hβ).1
 have hb:=hI b bo cap hβ;have hlen:((es.drop off).take len).length=len:=by simp;omega
 by_cases hoc:off<cap
 ·have ho:=H5 hoc;have hrep:∀ (i:Nat) (e:D) (j:Nat) (c:D),((es.drop off).take len)[i]?=some e->e.cells[j]?=some c->∃ y,w.cell? ⟨b,o+i*sz+j,none⟩=some y/\bD σ I' w c y:=by
   intro i e j c he hc;rw[Qo2]at he;split at he
   ·rw[Qx2]at he;obtain⟨y,h1,h2⟩:=hat.at_ _ e he j c hc;refine⟨y,?_,h2.mono hm (fun _ _=>rfl)⟩;rw[ho,show bo+off*sz+i*sz+j=bo+(off+i)*sz+j by rw[Qp1];omega];exact h1
   ·cases he
  have:=bD.s (σ:=σ) (I:=I') (w:=w) (sz:=sz) (es:=(es.drop off).take len) (b:=b) (off:=o) (cap:=cap-off) (fun i j=>(w.cell? ⟨b,o+i*sz+j,none⟩).getD undef) hb ae
   (fun e he=>hat.wide e (Q12 (Qn1 he))) (fun e he=>hat.one e (Q12 (Qn1 he)))
   (fun i e j c he hc=>by obtain⟨y,h1,_⟩:=hrep i e j c he hc;simp only[h1,Q51])
   (fun i e j c he hc=>by obtain⟨y,h1,h2⟩:=hrep i e j c he hc;simp only[h1,Q51];exact h2)
  rw[hlen]at this;exact this
 ·have h0:len=0:=ae;subst h0;have:=bD.s (σ:=σ) (I:=I') (w:=w) (sz:=sz) (es:=[]) (b:=b) (off:=o) (cap:=cap-off) (fun _ _=>undef) hb aA aA aA (fun i e j c he=>by simp at he) (fun i e j c he=>by simp at he);simpa using this
def RowsIn (β:Map)(I':Nat->Prop)(st:St)(rs:List Ref):Prop :=
 ∀ p ∈ rs,∀ ak sz es b bo cap,(st.heap p=some (.row ak sz es)\/st.heap p=some (.gK ak sz es))->β (p.abs st.base.length) ak=some (b,bo,cap)->I' b
theorem zT {v v':FV}{x:Value}(hS:fB σ β I Wr wd w st)(h:leave1 st v=some v')(hr:aH σ β I w st.base.length v x)(hm:∀ b,I b->I' b)(hI:RowsIn β I' st v.nD) :
  aH σ β I' w st.base.length v' x:=by
 unfold leave1 at h;split at h
 ·cases h;cases hr with|d hr=>exact .d (hr.dz.mono hm (fun _ _=>rfl))
 ·cases h;cases hr with|z=>exact .d (.s1 _ _ _)
 ·rename_i p ak sz off len;split at h<;>simp at h;subst h;rename_i es hes;simp only[elems,if_true]at hes;split at hes
  ·rename_i o ho;unfold ah.view at hes;split at hes
   ·split at hes<;>simp at hes;rename_i hh;obtain⟨rfl,rfl,hle⟩:=hh;subst hes;exact .d (GX hS (.inl ho) hle hr hm (fun b bo cap hβ=>hI p (by simp[FV.nD]) _ _ _ b bo cap (.inl ho) hβ))
   ·split at hes<;>simp at hes;rename_i hh;obtain⟨rfl,rfl,hle⟩:=hh;subst hes;exact .d (GX hS (.inr ho) hle hr hm (fun b bo cap hβ=>hI p (by simp[FV.nD]) _ _ _ b bo cap (.inr ho) hβ))
   ·simp at hes
  ·simp at hes
 ·cases h;exact hr.mono (fun _ _ _ h=>h) hm (fun _ _=>rfl)
theorem zU:∀ {vs vs':List FV} {xs:List Value} (_:fB σ β I Wr wd w st) (_:xU st vs=some vs') (_:gG σ β I w st.base.length vs xs) (_:∀ b,I b->I' b)
  (_:RowsIn β I' st (vs.flatMap FV.nD)),gG σ β I' w st.base.length vs' xs
 | [],vs',xs,hS,h,hr,hm,hI=>by
  simp[xU]at h;subst h;exact⟨hr.1,fun i c x hc=>by simp at hc⟩
 | v::vs,vs',xs,hS,h,hr,hm,hI=>by
  simp only[xU]at h;split at h<;>simp at h;subst h;rename_i y s h1 h2
  match xs,hr with
  | [],hr=>exact absurd hr.1 aA
  | x::xs,hr =>
   have r1:=zT hS h1 (hr.2 0 v x rfl rfl) hm (fun p hp=>hI p (by simp[hp]));have r2:=zU (xs:=xs) hS h2 ⟨by simpa using hr.1,fun i c x hc hx=>hr.2 (i+1) c x (by simpa using hc) (by simpa using hx)⟩ hm (fun p hp=>hI p (by
    simp only[Xc0,Qv0];exact .inr hp))
   refine⟨by simp[r2.1],fun i c z hc hz => ?_⟩;cases i with
   | zero=>simp at hc hz;subst hc;subst hz;exact r1
   | succ i=>exact r2.2 i c z (by simpa using hc) (by simpa using hz)
theorem Km {v v':FV}{x:Value}(hS:fB σ β I Wr wd w st)(h:leaves st v=some v')(hr:aH σ β I w st.base.length v x)(hm:∀ b,I b->I' b)(hI:RowsIn β I' st v.rows) :
  aH σ β I' w st.base.length v' x:=by
 unfold leaves at h;split at h
 ·cases h;cases hr with|d hr=>exact .d (hr.norm.mono hm (fun _ _=>rfl))
 ·split at h<;>simp at h;subst h;rename_i cs ds hds;cases hr with
  | a hl hr =>
   rename_i vs;have:=zU (xs:=vs.toList) hS hds ⟨by simpa using hl,fun i c x hc hx=>hr i c x hc (by simpa using hx)⟩ hm hI;exact aH.Sq (by simpa using this.1) (fun i c x hc hx=>this.2 i c x hc (by simpa using hx))
 ·rename_i h1 h2;refine zT hS h hr hm ?_;have:v.nD=v.rows\/v.nD=[]:=by
   cases v<;>first|exact .inl rfl|exact .inr rfl
  rcases this with e|e
  ·rw[e];exact hI
  ·rw[e];intro p hp;simp at hp
theorem gH:∀ {vs vs':List FV} {xs:List Value} (_:fB σ β I Wr wd w st) (_:fZ st vs=some vs') (_:gG σ β I w st.base.length vs xs) (_:∀ b,I b->I' b)
  (_:RowsIn β I' st (vs.flatMap FV.rows)),gG σ β I' w st.base.length vs' xs
 | [],vs',xs,hS,h,hr,hm,hI=>by
  simp[fZ]at h;subst h;exact⟨hr.1,fun i c x hc=>by simp at hc⟩
 | v::vs,vs',xs,hS,h,hr,hm,hI=>by
  simp only[fZ]at h;split at h<;>simp at h;subst h;rename_i y s h1 h2
  match xs,hr with
  | [],hr=>exact absurd hr.1 aA
  | x::xs,hr =>
   have r1:=Km hS h1 (hr.2 0 v x rfl rfl) hm (fun p hp=>hI p (by simp[hp]));have r2:=gH (xs:=xs) hS h2 ⟨by simpa using hr.1,fun i c x hc hx=>hr.2 (i+1) c x (by simpa using hc) (by simpa using hx)⟩ hm (fun p hp=>hI p (by
    simp only[Xc0,Qv0];exact .inr hp))
   refine⟨by simp[r2.1],fun i c z hc hz => ?_⟩;cases i with
   | zero=>simp at hc hz;subst hc;subst hz;exact r1
   | succ i=>exact r2.2 i c z (by simpa using hc) (by simpa using hz)
theorem Dx.Dy {rs:List Ref}(hS:fB σ β I Wr wd w st)(hf:Dx σ β I I' Wr wd st st' w rs):RowsIn β I' st rs:=by
 intro p hp ak sz es b bo cap hrow hβ;rw[St.fu]at hrow;rcases hrow with hrow|hrow
 ·have h2:=hf.all p hp ak sz es hrow;exact(hf.pY.gK _ _ _ _ _ _ _ h2 hβ).2
 ·exact hf.im _ (hS.gK _ _ _ _ _ _ _ hrow hβ).2
end leave
def dM (E:Env)(σ:Nat->Option FuncId)(I:Nat->Prop)(w:World):Prop :=
 ∀ k y,E.d9 k=some y->I k/\(∀ c ∈ y.cells,c.one=true)/\AtD σ I w k 0 y.cells/\∃ c e fr,w.heap[k]?=some (.cells c e fr)/\c.size=y.cells.length
theorem dM.mono {E:Env}{σ:Nat->Option FuncId}{I I':Nat->Prop}{w w':World}(h:dM E σ I w)(hi:∀ b,I b->I' b)(hk:∀ b,I b->w'.heap[b]?=w.heap[b]?):dM E σ I' w':=fun k y hy=>by
 obtain⟨h1,h2,h3,c,e,fr,h4,h5⟩:=h k y hy;exact⟨hi _ h1,h2,h3.mono hi hk (hk _ h1),c,e,fr,by rw[hk _ h1];exact h4,h5⟩
structure Grow (mn:Prop)(I I':Nat->Prop)(w w':World):Prop where
 im:∀ b,I b->I' b
 ik:∀ b,I' b->I b\/w.heap.size<=b
 lH:∀ b,I' b->b<w'.heap.size
 size:w.heap.size<=w'.heap.size
 keep:∀ b,b<w.heap.size->w'.heap[b]?=w.heap[b]?
 os:w'.os=w.os
 tape:w'.tape=w.tape
 output:w'.output=w.output
 drawn:mn->w.drawn<=w'.drawn
def iL (P:Program)(E:Env)(σ:Nat->Option FuncId)(g:Nat)(args:List FV)(B:List ah):FV × Option (List ah)->Prop
 | (v,none)=>∀ f,σ g=some f->∀ β I w (bz:Array Value),aY σ B.length β I (fun b=>w.heap.size<=b) (fun k=>B.length<=k) B w->gG σ β I w B.length args bz.toList->dM E σ I w ->
   Calls P f bz w fun e w'=>∃ x y I',e=.returned x/\v=.d y/\bD σ I' w' y x/\Grow E.mn I I' w w'
 | (v,some B')=>∀ f,σ g=some f->∀ β I Wr w (bz:Array Value),aY σ B.length β I Wr (fun _=>True) B w->gG σ β I w B.length args bz.toList->dM E σ I w ->
   Calls P f bz w fun e w'=>∃ x β' I',e=.returned x/\Ext E.mn β β' I I' Wr w w'/\(∀ n' wd',aY σ n' β' I' Wr wd' B' w')/\∀ n',aH σ β' I' w' n' v x
def Given (E:Env)(g:Nat):Prop:=(E.fn g).isSome=true\/(E.iV g).isSome=true\/(E.iH g).isSome=true
def jS (P:Program)(E:Env)(σ:Nat->Option FuncId)(rec:Nat->List FV->List ah->bF):Prop:=∀ g args B r,rec g args B=some r->Given E g/\iL P E σ g args B r
section call
variable {P:Program} {E:Env} {σ:Nat->Option FuncId} {β:Map} {I Wr:Nat->Prop} {wd:Nat->Prop} {w:World} {st st':St} {rec:Nat->List FV->List ah->bF} {draw:Bool} {v:FV}
theorem Grow.ext {I':Nat->Prop}{w':World}(h:Grow mn I I' w w')(hw:∀ b,w.heap.size<=b->Wr b)(hi:∀ b,I b->b<w.heap.size)(β:Map):Ext mn β β I I' Wr w w' :=
 ⟨fun _ _ _ h=>h,h.im,fun b hb=>(h.ik b hb).imp id (hw b),h.size,fun b hb=>h.keep b (hi b hb),fun b hb _=>h.keep b hb,h.os,h.tape,h.output,h.drawn⟩
theorem Nh {y:D}{x:Value}(h:scalar (.d y)=true){I0:Nat->Prop}{w0:World}(hr:bD σ I0 w0 y x)(I1:Nat->Prop)(w1:World):bD σ I1 w1 y x:=by
 cases y with
 | v z=>cases hr;exact .v _
 | t vs =>
  cases hr with
  | t hl hr =>
   refine .t hl (fun i c x hc hx => ?_);have hc':c.isV=true:=Qh2.1 h c (Qa2 hc);have:=hr i c x hc hx;cases c with
   | v z=>cases this;exact .v _
   | _=>simp[D.isV]at hc'
 | _=>simp[scalar]at h
theorem Dz {rows:List Ref}{I1 I2:Nat->Prop}{w':World}{y:D}{x:Value}(hS:fB σ β I Wr wd w st)(hf:Dx σ β I I1 Wr wd st (aJ st rows) w rows)
  (hdt:draw=false->jb st.base.length st' wd) (hr:bD σ I2 w' y x) (hg:Grow mn I1 I2 w w')
  (h:(if scalar (.d y)\/rows=[] then some (FV.d y,st) else if draw then none else some (.d y,aJ st rows))=some (v,st')):gW mn σ β I Wr wd w st st' v x w':=by
 split at h
 ·rename_i hsc;cases h;rcases hsc with hsc|hrows
  ·refine⟨β,I,⟨fun _ _ _ h=>h,fun _ h=>h,fun _ h=>.inl h,hg.size,fun b hb=>hg.keep b (hS.lH b hb),fun b hb _=>hg.keep b hb,hg.os,hg.tape,hg.output,hg.drawn⟩,hS.grow hg.size hg.keep,.d (Nh hsc hr _ _),fun _ _ _ _=>rfl⟩
  ·subst hrows
   -- nothing has been frozen
   have hI1:∀ b,I1 b->I b\/∃ (k:Nat) (o:ah) (bo cap:Nat),(st.base++st.loc)[k]?=some o/\o.live β k=some (b,bo,cap):=fun b hb=>(hf.ik b hb).imp id (fun⟨k,o,bo,cap,h1,h2,_⟩=>⟨k,o,bo,cap,h1,h2⟩)
   have hnot:∀ b,I1 b->I b:=by
    intro b hb;rcases hI1 b hb with h|⟨k,o,bo,cap,h1,h2⟩
    ·exact h
    ·exact absurd hb ((hf.pY.wr k o b bo cap (by simpa[aJ] using h1) h2).2)
   refine⟨β,I2,⟨fun _ _ _ h=>h,fun b hb=>hg.im b (hf.im b hb),fun b hb => ?_,hg.size,fun b hb=>hg.keep b (hS.lH b hb),fun b hb _=>hg.keep b hb,hg.os,hg.tape,hg.output,hg.drawn⟩,?_,.d hr,fun _ _ _ _=>rfl⟩
   ·rcases hg.ik b hb with h|h
    ·exact .inl (hnot b h)
    ·exact .inr (hS.jW b h)
   ·refine(hS.grow hg.size hg.keep).adN (fun b hb=>hg.im b (hf.im b hb)) hg.lH (fun k o b bo cap h1 h2 hI2 => ?_);rcases hg.ik b hI2 with h|h
    ·exact(hS.wr k o b bo cap h1 h2).2 (hnot b h)
    ·have:=jQ hS h2;omega
 ·split at h
  ·cases h
  ·rename_i hdr;have hdr:draw=false:=by simpa using hdr
   cases h;refine⟨β,I2,⟨fun _ _ _ h=>h,fun b hb=>hg.im b (hf.im b hb),fun b hb => ?_,hg.size,fun b hb=>hg.keep b (hS.lH b hb),fun b hb _=>hg.keep b hb,hg.os,hg.tape,hg.output,hg.drawn⟩,?_,.d hr,fun _ _ _ _=>rfl⟩
   ·rcases hg.ik b hb with h|h
    ·rcases hf.ik b h with h|⟨k,o,bo,cap,h1,h2,h3⟩
     ·exact .inl h
     ·exact .inr ((hS.wr k o b bo cap h1 h2).1 (h3.elim (fun hd=>(hdt hdr).2 hd k) ((hdt hdr).1 k)))
    ·exact .inr (hS.jW b h)
   ·refine(hf.pY.grow hg.size hg.keep).adN hg.im hg.lH (fun k o b bo cap h1 h2 hI2 => ?_);rcases hg.ik b hI2 with h|h
    ·exact(hf.pY.wr k o b bo cap h1 h2).2 h
    ·have:=jQ hf.pY h2;omega
end call
end
section
variable {mn:Prop}
section pY
variable {σ:Nat->Option FuncId} {β:Map} {I Wr:Nat->Prop} {wd:Nat->Prop} {w:World} {n:Nat} {H:List ah}
theorem ah.vH (o:ah)(β:Map)(k:Nat):(o.az n).live β k=o.live β k:=by cases o<;>rfl
theorem ah.FT {o:ah}{ak sz:Nat}{es:List D}(h:o.az n=.row ak sz es):o=.row ak sz es:=by cases o<;>simp_all[ah.az]
theorem ah.Rq {o:ah}{ak sz:Nat}{es:List D}(h:o.az n=.gK ak sz es):o=.gK ak sz es:=by cases o<;>simp_all[ah.az]
theorem ah.Rs {o:ah}{es:List (D × D)}(h:o.az n=.map es):o=.map es:=by cases o<;>simp_all[ah.az]
theorem ah.Rt {o:ah}{es:List (D × D)}(h:o.shift n=.map es):o=.map es:=by cases o<;>simp_all[ah.shift]
theorem ah.Ru {o:ah}{cs:List FV}(h:o.az n=.box cs):∃ cs',o=.box cs'/\cs=cs'.map (FV.az n):=by
 cases o<;>simp_all[ah.az,eU]
theorem ah.ni (o:ah)(β:Map)(k:Nat):(o.shift n).live β k=o.live β k:=by cases o<;>rfl
theorem ah.FU {o:ah}{ak sz:Nat}{es:List D}(h:o.shift n=.row ak sz es):o=.row ak sz es:=by cases o<;>simp_all[ah.shift]
theorem ah.Rv {o:ah}{ak sz:Nat}{es:List D}(h:o.shift n=.gK ak sz es):o=.gK ak sz es:=by cases o<;>simp_all[ah.shift]
theorem ah.Rw {o:ah}{cs:List FV}(h:o.shift n=.box cs):∃ cs',o=.box cs'/\cs=cs'.map (FV.shift n):=by
 cases o<;>simp_all[ah.shift,oQ]
theorem aY.old (h:aY σ n β I Wr wd H w){n':Nat}{Wr':Nat->Prop}{wd':Nat->Prop}(hnew:∀ b,w.heap.size<=b->Wr' b)
  (hw:∀ (k:Nat) (o:ah) b bo cap,H[k]?=some o->o.live β k=some (b,bo,cap)->wd' k->Wr' b):aY σ n' β I Wr' wd' (H.map (ah.az n)) w:=by
 have hget:∀ (k:Nat) (o:ah),(H.map (ah.az n))[k]?=some o->∃ o',H[k]?=some o'/\o'.az n=o:=by
  intro k o hk;simpa[Qb2,Qf2] using hk
 refine⟨h.lH,h.blt,hnew,fun k v x hx=>by rw[Ql0];exact h.dom k v x hx,?_,?_,?_,?_,?_,?_,?_⟩
 ·intro k ak sz es v x h1 h2;obtain⟨o',h3,h4⟩:=hget k _ h1;have:=ah.FT h4;subst this;exact h.l_ _ _ _ _ _ _ h3 h2
 ·intro k o b bo cap h1 h2;obtain⟨o',h3,rfl⟩:=hget k _ h1;rw[ah.vH]at h2;exact⟨hw k o' b bo cap h3 h2,(h.wr k o' b bo cap h3 h2).2⟩
 ·intro k cs b bo cap h1 h2;obtain⟨o',h3,h4⟩:=hget k _ h1;obtain⟨cs',rfl,rfl⟩:=ah.Ru h4;obtain⟨a0,c,e',a1,a2,a3⟩:=h.box k cs' b bo cap h3 h2;refine⟨a0,c,e',a1,by simpa using a2,fun j f x e1 e2 => ?_⟩;simp only[Qb2,Qf2]at e1;obtain⟨f',e3,rfl⟩:=e1;exact(a3 j f' x e3 e2).az n'
 ·intro k ak sz es b bo cap h1 h2;obtain⟨o',h3,h4⟩:=hget k _ h1;have:=ah.FT h4;subst this;exact h.row _ _ _ _ _ _ _ h3 h2
 ·intro k ak sz es b bo cap h1 h2;obtain⟨o',h3,h4⟩:=hget k _ h1;have:=ah.Rq h4;subst this;exact h.gK _ _ _ _ _ _ _ h3 h2
 ·intro k k' o1 o2 b bo cap vC cap' h1 h2 h3 h4;obtain⟨o1',h5,rfl⟩:=hget k _ h1;obtain⟨o2',h6,rfl⟩:=hget k' _ h2;rw[ah.vH]at h3 h4;exact h.inj k k' o1' o2' b bo cap vC cap' h5 h6 h3 h4
 ·intro k es b bo cap h1 h2;obtain⟨o',h3,h4⟩:=hget k _ h1;have:=ah.Rs h4;subst this;exact h.map _ _ _ _ _ h3 h2
theorem aY.empty (n:Nat){Wr:Nat->Prop}{wd:Nat->Prop}(hi:∀ b,I b->b<w.heap.size)(hw:∀ b,w.heap.size<=b->Wr b):aY σ n (fun _ _=>none) I Wr wd [] w:=by
 constructor
 ·exact hi
 ·intro _ _ _ _ _ h;cases h
 ·exact hw
 ·intro _ _ _ h;cases h
 all_goals intros;simp at*
def Map.join (β β':Map)(m:Nat):Map:=fun k v=>if k<m then β k v else β' (k-m) v
theorem Map.mr {β β':Map}{m k v:Nat}(h:k<m):Map.join β β' m k v=β k v:=by simp[Map.join,h]
theorem Map.mD {β β':Map}{m k v:Nat}(h:m<=k):Map.join β β' m k v=β' (k-m) v:=by simp[Map.join,Nat.not_lt.2 h]
theorem aY.merge {β':Map}{I':Nat->Prop}{w':World}{B:List ah}(h:aY σ n β I Wr wd H w)(hn:n<=H.length)(k:aY σ 0 β' I' (fun b=>w.heap.size<=b) (fun _=>True) B w')(hx:Ext mn (fun _ _=>none) β' I I' (fun b=>w.heap.size<=b) w w') :
  Ext mn β (Map.join β β' H.length) I I' Wr w w'/\aY σ n (Map.join β β' H.length) I' Wr wd (H++B.map (ah.shift (H.length-n))) w':=by
 have MO:∀ k v x,β k v=some x->Map.join β β' H.length k v=some x:=fun k v x e=>(Map.mr (h.dom k v x e)).trans e
 have hkeep:∀ b,b<w.heap.size->w'.heap[b]?=w.heap[b]?:=fun b hb=>hx.keepW b hb ae
 have agI:∀ b,I' b->b<w.heap.size->I b:=fun b hb hlt=>(hx.ik b hb).elim id (fun h=>by omega)
 have hsh:∀ i ak y,β' i ak=some y->Map.join β β' H.length (n+(H.length-n+i)) ak=some y:=by
  intro i ak y hy;rw[Map.mD ae,show n+(H.length-n+i)-H.length=i by omega];exact hy
 have hget:∀ (j:Nat) (o:ah),(H++B.map (ah.shift (H.length-n)))[j]?=some o->(j<H.length/\H[j]?=some o)\/(H.length<=j/\∃ o',B[j-H.length]?=some o'/\o'.shift (H.length-n)=o):=by
  intro j o hj;rcases Qg1 j H.length with hl|hl
  ·rw[Qa0 hl]at hj;exact .inl ⟨hl,hj⟩
  ·rw[Qc0 hl,Qb2,Qf2]at hj;exact .inr ⟨hl,hj⟩
 have hlive:∀ (j:Nat) (o:ah),j<H.length->o.live (Map.join β β' H.length) j=o.live β j:=fun j o hj=>by cases o<;>simp[ah.live,Map.mr hj]
 have nu:∀ (j:Nat) (o:ah),H.length<=j->o.live (Map.join β β' H.length) j=o.live β' (j-H.length):=fun j o hj=>by cases o<;>simp[ah.live,Map.mD hj]
 refine⟨⟨MO,hx.im,fun b hb=>(hx.ik b hb).imp id (h.jW b),hx.size,hx.fo,fun b hb _=>hkeep b hb,hx.os,hx.tape,hx.output,hx.drawn⟩,?_⟩;refine⟨k.lH,?_,fun b hb=>h.jW b (Qc2 hx.size hb),?_,?_,?_,?_,?_,?_,?_,?_⟩
 ·intro j v b bo cap hb;unfold Map.join at hb;split at hb
  ·exact Qk0 (h.blt _ _ _ _ _ hb) hx.size
  ·exact k.blt _ _ _ _ _ hb
 ·intro j v x hb;rw[Qb0,Ql0];unfold Map.join at hb;split at hb
  ·omega
  ·have:=k.dom _ _ _ hb;omega
 ·intro j ak sz es v x h1 h2;rcases hget j _ h1 with ⟨hl,h3⟩|⟨hl,o',h3,h4⟩
  ·rw[Map.mr hl]at h2;exact h.l_ _ _ _ _ _ _ h3 h2
  ·have:=ah.FU h4;subst this;rw[Map.mD hl]at h2;exact k.l_ _ _ _ _ _ _ h3 h2
 ·intro j o b bo cap h1 h2;rcases hget j _ h1 with ⟨hl,h3⟩|⟨hl,o',h3,rfl⟩
  ·rw[hlive _ _ hl]at h2;obtain⟨a1,a2⟩:=h.wr _ _ _ _ _ h3 h2;exact⟨a1,fun hb=>a2 (agI b hb (jQ h h2))⟩
  ·rw[ah.ni,nu _ _ hl]at h2;obtain⟨a1,a2⟩:=k.wr _ _ _ _ _ h3 h2;exact⟨fun _=>h.jW b (a1 trivial),a2⟩
 ·intro j cs b bo cap h1 h2;rcases hget j _ h1 with ⟨hl,h3⟩|⟨hl,o',h3,h4⟩
  ·rw[Map.mr hl]at h2;obtain⟨a0,c,e',a1,a2,a3⟩:=h.box _ _ _ _ _ h3 h2;exact⟨a0,c,e',by rw[hkeep b (h.blt _ _ _ _ _ h2)];exact a1,a2,fun i f x e1 e2=>(a3 i f x e1 e2).mono MO hx.im hx.fo⟩
  ·obtain⟨cs',rfl,rfl⟩:=ah.Rw h4;rw[Map.mD hl]at h2;obtain⟨a0,c,e',a1,a2,a3⟩:=k.box _ _ _ _ _ h3 h2;refine⟨a0,c,e',a1,by simpa using a2,fun i f x e1 e2 => ?_⟩;simp only[Qb2,Qf2]at e1;obtain⟨f',e3,rfl⟩:=e1;exact(a3 i f' x e3 e2).shift hsh
 ·intro j ak sz es b bo cap h1 h2;rcases hget j _ h1 with ⟨hl,h3⟩|⟨hl,o',h3,h4⟩
  ·rw[Map.mr hl]at h2;obtain⟨a0,c,e',a1,a2⟩:=h.row _ _ _ _ _ _ _ h3 h2;have hb:=hkeep b (h.blt _ _ _ _ _ h2);exact⟨a0.mono hx.im hx.fo hb,c,e',by rw[hb];exact a1,a2⟩
  ·have:=ah.FU h4;subst this;rw[Map.mD hl]at h2;exact k.row _ _ _ _ _ _ _ h3 h2
 ·intro j ak sz es b bo cap h1 h2;rcases hget j _ h1 with ⟨hl,h3⟩|⟨hl,o',h3,h4⟩
  ·rw[Map.mr hl]at h2;obtain⟨a0,a1⟩:=h.gK _ _ _ _ _ _ _ h3 h2;exact⟨a0.mono hx.im hx.fo (hx.fo b a1),hx.im b a1⟩
  ·have:=ah.Rv h4;subst this;rw[Map.mD hl]at h2;exact k.gK _ _ _ _ _ _ _ h3 h2
 ·intro j j' o1 o2 b bo cap vC cap' h1 h2 h3 h4;rcases hget j _ h1 with ⟨hl,h5⟩|⟨hl,o1',h5,rfl⟩<;>rcases hget j' _ h2 with ⟨hl',h6⟩|⟨hl',o2',h6,rfl⟩
  ·rw[hlive _ _ hl]at h3;rw[hlive _ _ hl']at h4;exact h.inj _ _ _ _ _ _ _ _ _ h5 h6 h3 h4
  ·rw[hlive _ _ hl]at h3;rw[ah.ni,nu _ _ hl']at h4;have h7:=jQ h h3;have h8:w.heap.size<=b:=(k.wr _ _ _ _ _ h6 h4).1 trivial;omega
  ·rw[ah.ni,nu _ _ hl]at h3;rw[hlive _ _ hl']at h4;have h7:=jQ h h4;have h8:w.heap.size<=b:=(k.wr _ _ _ _ _ h5 h3).1 trivial;omega
  ·rw[ah.ni,nu _ _ hl]at h3;rw[ah.ni,nu _ _ hl']at h4;have:=k.inj _ _ _ _ _ _ _ _ _ h5 h6 h3 h4;omega
 ·intro j es b bo cap h1 h2;rcases hget j _ h1 with ⟨hl,h3⟩|⟨hl,o',h3,h4⟩
  ·rw[Map.mr hl]at h2;obtain⟨ms,clock,a1,a2⟩:=h.map _ _ _ _ _ h3 h2;exact⟨ms,clock,by rw[hkeep b (h.blt _ _ _ _ _ h2)];exact a1,a2.mono hx.im hx.fo⟩
  ·have:=ah.Rt h4;subst this;rw[Map.mD hl]at h2;exact k.map _ _ _ _ _ h3 h2
end pY
section call
variable {P:Program} {E:Env} {σ:Nat->Option FuncId} {β:Map} {I Wr:Nat->Prop} {wd:Nat->Prop} {w:World} {st st':St} {rec:Nat->List FV->List ah->bF} {draw:Bool} {v:FV}
theorem w9 {xs:List FV}{ds:List D}(h:jU xs=some ds){n:Nat}{vs:List Value}(hr:gG σ β I w n xs vs)(β':Map)(n':Nat):gG σ β' I w n' xs vs:=by
 refine⟨hr.1,fun i c x hc hx => ?_⟩;have:=hr.2 i c x hc hx;have hd:∀ (xs:List FV) (ds:List D),jU xs=some ds->∀ c ∈ xs,∃ y,c=.d y:=by
  intro xs
  induction xs with
  | nil=>intro _ _ c hc;simp at hc
  | cons z zs ih =>
   intro ds h c hc;cases z<;>simp only[jU]at h<;>try (cases h;done)
   split at h<;>simp at h;rcases Qi2.1 hc with rfl|hc
   ·exact⟨_,rfl⟩
   ·exact ih _ (by assumption) c hc
 obtain⟨y,rfl⟩:=hd xs ds h c (Qa2 hc);cases this with|d h=>exact .d h
theorem DD {g:Nat}{args xs:List FV}{f:FuncId}{bz:Array Value}(hrec:jS P E σ rec)(hS:fB σ β I Wr wd w st)(hG:dM E σ I w)(hσ:σ g=some f)
  (hA:gG σ β I w st.base.length args bz.toList) (hl:fZ st args=some xs) (hd:(jU xs).isSome=true) (h:eD rec draw st g xs (args.flatMap FV.rows)=some (v,st')) (hdt:draw=false->jb st.base.length st' wd) :
  Calls P f bz w fun e w'=>∃ x,e=.returned x/\Post E.mn σ st.base.length (st.base++st.loc).length β I Wr wd w st' v x w':=by
 obtain⟨ds,hds⟩:=Q32.1 hd;unfold eD at h;split at h
 ·rename_i y hcall;obtain⟨I1,hf⟩:=iP (args.flatMap FV.rows) hS;have hx:=gH hS hl hA hf.im (hf.Dy hS);have:=(hrec _ _ _ _ hcall).2 f hσ (fun _ _=>none) I1 w bz (.empty _ hf.pY.lH (fun _ h=>h)) (w9 hds hx _ _) (hG.mono hf.im (fun _ _=>rfl));refine this.mono fun e w' ⟨x,y',I2,he,hy,hrx,hg⟩=>⟨x,he,?_⟩
  subst hy;exact Dz hS hf hdt hrx hg h
 ·rename_i y B hcall;split at h
  ·rename_i hrows;cases h;have hx:=gH (I':=I) hS hl hA (fun _ h=>h) (by rw[hrows];intro p hp;simp at hp);have:=(hrec _ _ _ _ hcall).2 f hσ (fun _ _=>none) I (fun b=>w.heap.size<=b) w bz (.empty _ hS.lH (fun _ h=>h)) (w9 hds hx _ _) hG;refine this.mono fun e w' ⟨x,β',I',he,hxt,hsm,hrx⟩=>⟨x,he,?_⟩
   have hlen:(st.base++st.loc).length-st.base.length=st.loc.length:=aA;obtain⟨m1,m2⟩:=hS.merge aA (hsm 0 (fun _=>True)) hxt;refine⟨_,I',m1,?_,(hrx 0).shift ?_,fun k u hk _=>Map.mr hk⟩
   ·rw[hlen,Qp0]at m2;exact m2
   ·intro i ak z hz;rw[Map.mD (by rw[Qb0];omega),show st.base.length+(st.loc.length+i)-(st.base++st.loc).length=i by rw[Qb0];omega];exact hz
  ·split at h
   ·cases h
   ·rename_i hdr;have hdr:draw=false:=by simpa using hdr
    cases h;obtain⟨I1,hf⟩:=iP (args.flatMap FV.rows) hS;have hx:=gH hS hl hA hf.im (hf.Dy hS);have:=(hrec _ _ _ _ hcall).2 f hσ (fun _ _=>none) I1 (fun b=>w.heap.size<=b) w bz (.empty _ hf.pY.lH (fun _ h=>h)) (w9 hds hx _ _) (hG.mono hf.im (fun _ _=>rfl));refine this.mono fun e w' ⟨x,β',I',he,hxt,hsm,hrx⟩=>⟨x,he,?_⟩
    have hl1:((aJ st (args.flatMap FV.rows)).base++(aJ st (args.flatMap FV.rows)).loc).length=(st.base++st.loc).length:=by
     rw[Qb0,Qb0,hf.base,hf.len]
    have hlen:(st.base++st.loc).length-st.base.length=st.loc.length:=aA;obtain⟨m1,m2⟩:=hf.pY.merge (by rw[hl1];simp) (hsm 0 (fun _=>True)) hxt;rw[hl1]at m1 m2;refine⟨_,I',⟨m1.bm,fun b hb=>m1.im b (hf.im b hb),fun b hb => ?_,m1.size,fun b hb=>m1.fo b (hf.im b hb),m1.keepW,m1.os,m1.tape,m1.output,m1.drawn⟩,?_,(hrx 0).shift ?_,fun k u hk _=>Map.mr hk⟩
    ·rcases m1.ik b hb with h|h
     ·rcases hf.ik b h with h|⟨k,o,bo,cap,h1,h2,h3⟩
      ·exact .inl h
      ·exact .inr ((hS.wr k o b bo cap h1 h2).1 (h3.elim (fun hd=>(hdt hdr).2 hd k) ((hdt hdr).1 k)))
     ·exact .inr h
    ·rw[hlen,Qp0]at m2;exact m2
    ·intro i ak z hz;rw[Map.mD (by rw[Qb0];omega),show st.base.length+(st.loc.length+i)-(st.base++st.loc).length=i by rw[Qb0];omega];exact hz
 ·cases h
theorem aH.AX {β:Map}{I:Nat->Prop}{w:World}{n:Nat}{v:FV}{x:Value}(h:aH σ β I w n v x):aH σ β I w n (AX n v) x:=by
 unfold Fi.AX;split
 ·split
  ·rename_i hi;cases h with
   | ls h1 h2 h3=>exact .ls (p:=.loc _) (by simp only[Ref.abs]at h1 ⊢;rw[show n+(_-n)=_ from Nat.add_sub_cancel' hi];exact h1) h2 h3
  ·exact h
 ·exact h
theorem uJ {g:Nat}{rows:List Ref}{xs:List FV}{f:FuncId}{bz:Array Value}(hrl:eP rec)(hrec:jS P E σ rec)(hS:fB σ β I Wr wd w st)(hG:dM E σ I w)(hσ:σ g=some f)
  {I1:Nat->Prop} (hf:Dx σ β I I1 Wr wd st (aJ st rows) w rows) (hx:gG σ β I1 w st.base.length xs bz.toList) (h:dx rec draw st g xs rows=some (v,st')) (hdt:draw=false->jb st.base.length st' wd) :
  Calls P f bz w fun e w'=>∃ x,e=.returned x/\Post E.mn σ st.base.length (st.base++st.loc).length β I Wr wd w st' v x w':=by
 have hx':∀ n',gG σ β I1 w n' (FV.aP st.base.length xs) bz.toList:=by
  intro n';rw[eU];refine⟨by simpa using hx.1,fun i c x hc hy => ?_⟩;simp only[Qb2,Qf2]at hc;obtain⟨d,hd,rfl⟩:=hc;exact(hx.2 i d x hd hy).az n'
 have hlen:(((aJ st rows).base++(aJ st rows).loc).map (ah.az st.base.length)).length=st.base.length+st.loc.length:=by
  simp[hf.base,hf.len]
 unfold dx at h;split at h
 ·rename_i y hcall;have hold:=hf.pY.old (n':=(((aJ st rows).base++(aJ st rows).loc).map (ah.az st.base.length)).length) (Wr':=fun b=>w.heap.size<=b) (wd':=fun k=>(((aJ st rows).base++(aJ st rows).loc).map (ah.az st.base.length)).length<=k) (fun _ h=>h)
   (fun k o b bo cap h1 _ h2=>by
    have:=(bq h1)
    simp only[Ql0]at h2;omega)
  have:=(hrec _ _ _ _ hcall).2 f hσ β I1 w bz hold (hx' _) (hG.mono hf.im (fun _ _=>rfl));refine this.mono fun e w' ⟨x,y',I2,he,hy,hrx,hg⟩=>⟨x,he,?_⟩
  subst hy;exact Dz hS hf hdt hrx hg h
 ·rename_i y B hcall;split at h
  ·cases h
  ·rename_i hdr;cases h;have hmw:=hdt (by simpa using hdr);have hwd:∀ k,wd k:=by
    intro k;rcases Qq0 st.base.length with h0|h0
    ·exact hmw.1 k ae
    ·exact hmw.2 (by simp[h0]) k
   have hWr:∀ (k:Nat) (o:ah) b bo cap,((aJ st rows).base++(aJ st rows).loc)[k]?=some o->o.live β k=some (b,bo,cap)->Wr b:=fun k o b bo cap h1 h2=>(hf.pY.wr k o b bo cap h1 h2).1 (hwd k)
   have hold:=hf.pY.old (n':=(((aJ st rows).base++(aJ st rows).loc).map (ah.az st.base.length)).length) (Wr':=Wr) (wd':=fun _=>True) hS.jW
    (fun k o b bo cap h1 h2 _=>hWr k o b bo cap h1 h2)
   have:=(hrec _ _ _ _ hcall).2 f hσ β I1 Wr w bz hold (hx' _) (hG.mono hf.im (fun _ _=>rfl));refine this.mono fun e w' ⟨x,β',I',he,hxt,hsm,hrx⟩=>⟨x,he,β',I',?_,?_,(hrx _).AX,fun k u _ hn=>(hn (hwd k)).elim⟩
   ·refine⟨hxt.bm,fun b hb=>hxt.im b (hf.im b hb),fun b hb => ?_,hxt.size,fun b hb=>hxt.fo b (hf.im b hb),hxt.keepW,hxt.os,hxt.tape,hxt.output,hxt.drawn⟩;rcases hxt.ik b hb with h|h
    ·rcases hf.ik b h with h|⟨k,o,bo,cap,h1,h2,h3⟩
     ·exact .inl h
     ·exact .inr ((hS.wr k o b bo cap h1 h2).1 (hwd k))
    ·exact .inr h
   ·have hBl:=hrl _ _ _ _ _ hcall;rw[hlen]at hBl;simp only[Xe0];exact hsm _ _
 ·cases h
theorem DF {g:Nat}{args xs:List FV}{f:FuncId}{bz:Array Value}(hrl:eP rec)(hrec:jS P E σ rec)(hS:fB σ β I Wr wd w st)(hG:dM E σ I w)(hσ:σ g=some f)
  (hA:gG σ β I w st.base.length args bz.toList) (hl:fZ st args=some xs) (h:dx rec draw st g xs (args.flatMap FV.rows)=some (v,st')) (hdt:draw=false->jb st.base.length st' wd) :
  Calls P f bz w fun e w'=>∃ x,e=.returned x/\Post E.mn σ st.base.length (st.base++st.loc).length β I Wr wd w st' v x w':=by
 obtain⟨I1,hf⟩:=iP (args.flatMap FV.rows) hS;exact uJ hrl hrec hS hG hσ hf (gH hS hl hA hf.im (hf.Dy hS)) h hdt
theorem Er {g:Nat}{args:List FV}{f:FuncId}{bz:Array Value}(hrl:eP rec)(hrec:jS P E σ rec)(hS:fB σ β I Wr wd w st)(hG:dM E σ I w)(hσ:σ g=some f)
  (hA:gG σ β I w st.base.length args bz.toList) (h:dx rec draw st g args []=some (v,st')) (hdt:draw=false->jb st.base.length st' wd) :
  Calls P f bz w fun e w'=>∃ x,e=.returned x/\Post E.mn σ st.base.length (st.base++st.loc).length β I Wr wd w st' v x w':=by
 obtain⟨I1,hf⟩:=iP [] hS;exact uJ hrl hrec hS hG hσ hf ⟨hA.1,fun i c x h1 h2=>(hA.2 i c x h1 h2).mono (fun _ _ _ h=>h) hf.im (fun _ _=>rfl)⟩ h hdt
theorem DI {g:Nat}{args:List FV}{rows:List Ref}(hrec:jS P E σ rec)(h:dx rec draw st g args rows=some (v,st')):Given E g:=by
 unfold dx at h;split at h
 ·rename_i hc;exact(hrec _ _ _ _ hc).1
 ·rename_i hc;exact(hrec _ _ _ _ hc).1
 ·cases h
theorem qy {g:Nat}{args:List FV}(hrec:jS P E σ rec)(h:fK rec draw st g args=some (v,st')):Given E g:=by
 unfold fK at h;split at h
 ·cases h
 ·split at h
  ·unfold eD at h;split at h
   ·rename_i hc;exact(hrec _ _ _ _ hc).1
   ·rename_i hc;exact(hrec _ _ _ _ hc).1
   ·cases h
  ·unfold dx at h;split at h
   ·rename_i hc;exact(hrec _ _ _ _ hc).1
   ·rename_i hc;exact(hrec _ _ _ _ hc).1
   ·cases h
theorem qA {g:Nat}{args:List FV}{f:FuncId}{bz:Array Value}(hrl:eP rec)(hrec:jS P E σ rec)(hS:fB σ β I Wr wd w st)(hG:dM E σ I w)(hσ:σ g=some f)
  (hA:gG σ β I w st.base.length args bz.toList) (h:fK rec draw st g args=some (v,st')) (hdt:draw=false->jb st.base.length st' wd) :
  Calls P f bz w fun e w'=>∃ x,e=.returned x/\Post E.mn σ st.base.length (st.base++st.loc).length β I Wr wd w st' v x w':=by
 unfold fK at h;split at h
 ·cases h
 ·rename_i xs hl;split at h
  ·rename_i hd;exact DD hrec hS hG hσ hA hl hd h hdt
  ·exact DF hrl hrec hS hG hσ hA hl h hdt
end call
end
section
theorem gG.append {σ:Nat->Option FuncId}{β:Map}{I:Nat->Prop}{w:World}{n:Nat}{a b:List FV}{xs ys:List Value}(h:gG σ β I w n a xs)(k:gG σ β I w n b ys):gG σ β I w n (a++b) (xs++ys):=by
 refine⟨by rw[Qb0,Qb0,h.1,k.1],fun i c x hc hx => ?_⟩;rcases Qg1 i a.length with hl|hl
 ·rw[Qa0 hl]at hc;rw[Qa0 (by rw[h.1];exact hl)]at hx;exact h.2 i c x hc hx
 ·rw[Qc0 hl]at hc;rw[Qc0 (by rw[h.1];exact hl),h.1]at hx;exact k.2 _ c x hc hx
section step
variable {P:Program} {E:Env} {cx:Cx} {σ:Nat->Option FuncId} {β:Map} {I Wr:Nat->Prop} {wd:Nat->Prop} {w:World} {st st':St} {env:List FV} {aL:List (Option Tmp)} {ρ:Operand->Value}
variable {rec:Nat->List FV->List ah->bF} {draw:Bool} {k:K} {v:FV} {o:Oper}
def Bodies (P : Program) (E : Env) (σ : Nat → Option FuncId) : Prop := ∀ g f, Given E g → σ g = some f → ∃ fn c, P.funcs[f]? = some fn ∧ fn.body = some c ∧ (fn.name == "runtime.NumGoroutine") = false
theorem Hg {f : FuncId} {fn : Func} {c : Code} {args : Array Value} (h1 : P.funcs[f]? = some fn) (h2 : fn.body = some c) (h3 : (fn.name == "runtime.NumGoroutine") = false) (w : World) :
  (callFunc f args).run P w=.ok (.enter f args) w:=by
 unfold callFunc;have h4 : ¬ fn.name = "runtime.NumGoroutine" := by simpa using h3
 simp[h1,h2,h4]
theorem Hl {c:Call}{x:Operand}{f:FuncId}{first captured:Array Value}(ho:o.op=.call c)(hcl:c.callee=.value x)(hx:ρ x=.func (.func f) first captured){fn:Func}{b:Code}
  (h1 : P.funcs[f]? = some fn) (h2 : fn.body = some b) (h3 : (fn.name == "runtime.NumGoroutine") = false) {Φ : Value → World → Prop}
  (h:Calls P f (first++c.args.map ρ++captured) w fun e w'=>∃ x,e=.returned x/\Φ x w'):Yields P o ρ w Φ:=by
 have he:(execOp ρ o).run P w=.ok (.enter f (first++c.args.map ρ++captured)) w:=by
  simp[execOp,ho,resolve,hcl,hx,Deferred.ofValue,invoke,Hg h1 h2 h3]
 unfold Yields;rw[he];exact h
theorem s_call {c:Call}{x:Operand}(ho:o.op=.call c)(hcl:c.callee=.value x)(uu:∀ f,ρ (.func f)=.func (.func f) #[] #[])(bB:∀ f g,cx.gid f=some g->σ g=some f)(hB:Bodies P E σ)
  (hrl:eP rec) (hrec:jS P E σ rec) (hG:dM E σ I w)
  (hc:aV P cx aL o=some k) (hk:runK E rec draw st env k=some (v,st')) (hdt:k.loud draw=true->jb st.base.length st' wd) (hS:fB σ β I Wr wd w st) (hA:bX P E cx σ β I w st env aL ρ (x::c.args.toList)) :
  Yields P o ρ w (Post E.mn σ st.base.length (st.base++st.loc).length β I Wr wd w st' v):=by
 simp only[aV,ho,hcl]at hc;split at hc
 ·rename_i f hf;cases hf;split at hc<;>simp at hc;subst hc;rename_i g as hg has;cases hr:cx.uF f with
  | false =>
   simp only[hr,Qh1,if_false]at hk hdt;have hl:draw=false->jb st.base.length st' wd:=fun hd=>hdt (by split<;>simp[K.loud,hd])
   have hk':(match eZ E st env as with|some fs=>fK rec draw st g fs|none=>none)=some (v,st'):=by
    split at hk
    ·simp only[runK,di]at hk;cases hx:eZ E st env as with
     | none=>simp[hx]at hk
     | some xs=>simpa[hx] using hk
    ·exact hk
   split at hk'
   ·rename_i fs hfs;obtain⟨fn,b,h1,h2,h3⟩:=hB g f (qy hrec hk') (bB _ _ hg);refine Hl ho hcl (uu f) h1 h2 h3 ?_;have hL:=jD hA (fun _ h=>Qf1 _ h) has hfs;exact qA hrl hrec hS hG (bB _ _ hg) (by simpa using hL) hk' hl
   ·cases hk'
  | true =>
   simp only[hr,if_true]at hk hdt;simp only[runK]at hk;split at hk
   ·rename_i fs hfs;obtain⟨fn,b,h1,h2,h3⟩:=hB g f (DI hrec hk) (bB _ _ hg);refine Hl ho hcl (uu f) h1 h2 h3 ?_;have hL:=jD hA (fun _ h=>Qf1 _ h) has hfs;exact Er hrl hrec hS hG (bB _ _ hg) (by simpa using hL) hk (fun hd=>hdt (by simp[K.loud,hd]))
   ·cases hk
 ·rename_i x' hne hf;cases hf;split at hc<;>simp at hc;subst hc;rename_i a as ha has;simp only[runK]at hk;split at hk
  ·rename_i g xs hfv hfs;have hr:=hA _ x a _ aA ha hfv;cases hr with
   | d hr =>
    generalize hρ:ρ x=z at hr;cases hr with
    | fn hσ =>
     obtain⟨fn,b,h1,h2,h3⟩:=hB _ _ (qy hrec hk) hσ;refine Hl ho hcl hρ h1 h2 h3 ?_;have hL:=jD hA (fun _ h=>Qf1 _ h) has hfs;exact qA hrl hrec hS hG hσ (by simpa using hL) hk (fun hd=>hdt (by simp[K.loud,hd]))
  ·rename_i g first captured xs hfv hfs
   have hr:=hA _ x a _ aA ha hfv;generalize hρ:ρ x=z at hr;cases hr with
   | @f _ kk _ _ vs us hσ e1 e2 hv hu =>
    obtain⟨fn,b,h1,h2,h3⟩:=hB _ _ (qy hrec hk) hσ;refine Hl ho hcl hρ h1 h2 h3 ?_;have hL:=jD hA (fun _ h=>Qf1 _ h) has hfs;refine qA hrl hrec hS hG hσ ?_ hk (fun hd=>hdt (by simp[K.loud,hd]));simp only[Array.toList_append,Array.toList_map];have r1:gG σ β I w st.base.length first vs.toList:=⟨by simpa using e1,fun i c x h1 h2=>hv i c x h1 (by simpa using h2)⟩
    have r2:gG σ β I w st.base.length captured us.toList:=⟨by simpa using e2,fun i c x h1 h2=>hu i c x h1 (by simpa using h2)⟩
    exact gG.append (gG.append r1 hL) r2
  ·cases hk
 ·simp_all
 ·simp_all
end step
end
section
section step
variable {P:Program} {E:Env} {cx:Cx} {σ:Nat->Option FuncId} {β:Map} {I Wr:Nat->Prop} {wd:Nat->Prop} {w:World} {st st':St} {env:List FV} {aL:List (Option Tmp)} {ρ:Operand->Value}
variable {rec:Nat->List FV->List ah->bF} {draw:Bool} {k:K} {v:FV} {o:Oper}
theorem bX.sub {xs ys:List Operand}(h:bX P E cx σ β I w st env aL ρ xs)(hs:∀ x ∈ ys,x ∈ xs):bX P E cx σ β I w st env aL ρ ys:=fun ty x y f hm=>h ty x y f (hs x hm)
theorem Ni (uu:∀ v,ρ (.const v)=v)(hfun:∀ f,ρ (.func f)=.func (.func f) #[] #[])(bB:∀ f g,cx.gid f=some g->σ g=some f)(hB:Bodies P E σ)
  (hrl:eP rec) (hrec:jS P E σ rec) (hG:dM E σ I w)
  (hc:aV P cx aL o=some k) (hk:runK E rec draw st env k=some (v,st')) (hdt:k.loud draw=true->jb st.base.length st' wd) (hS:fB σ β I Wr wd w st) (hA:bX P E cx σ β I w st env aL ρ o.op.operands.toList) :
  Yields P o ρ w (Post E.mn σ st.base.length (st.base++st.loc).length β I Wr wd w st' v):=by
 obtain⟨dst,op,type,pos,after,guard⟩:=o;cases op
 case move x=>exact aa7 (.inl rfl) hc hk hS (hA.sub (by simp[Op.operands]))
 case assign x=>exact aa7 (.inr rfl) hc hk hS (hA.sub (by simp[Op.operands]))
 case pick c a b=>exact adH hc hk hS (hA.sub (by simp[Op.operands]))
 case alloc e=>exact agD bB hc hk hS
 case box e x=>exact agC hc hk hS (hA.sub (by simp[Op.operands]))
 case build t parts=>exact aan bB hc hk hS (hA.sub (by simp[Op.operands]))
 case buildSlice t len parts=>exact agH bB hc hk hS (hA.sub (by simp[Op.operands]))
 case load t x=>exact adJ hc hk hS (hA.sub (by simp[Op.operands]))
 case store t x y=>exact aaf hc hk hdt hS (hA.sub (by simp[Op.operands]))
 case nilCheck x=>exact agE hc hk hS (hA.sub (by simp[Op.operands]))
 case fieldAddr s x i=>exact aag hc hk hS (hA.sub (by simp[Op.operands]))
 case field s x i=>exact aah hc hk hS (hA.sub (by simp[Op.operands]))
 case indexAddr t x ix=>exact aai hc hk hS (hA.sub (by simp[Op.operands]))
 case index t x ix=>exact aaj hc hk hS (hA.sub (by simp[Op.operands]))
 case makeSlice t l c=>exact ajj bB hc hk hS (hA.sub (by simp[Op.operands]))
 case slice t x lo hi mx =>
  cases mx with
  | none=>exact aak hc hk hS (hA.sub (by simp[Op.operands]))
  | some m=>simp[aV]at hc
 case extract x i=>exact agF hc hk hS (hA.sub (by simp[Op.operands]))
 case makeFunc fn first captured =>
  cases fn with
  | func f=>exact agG bB hc hk hS (hA.sub (by simp[Op.operands]))
  | _=>simp[aV]at hc
 case binOp op xt x y yt=>exact agB uu hc hk hS (hA.sub (by simp[Op.operands]))
 case unOp op t x=>exact aji hc hk hS (hA.sub (by simp[Op.operands]))
 case convert src dt x=>exact adI hc hk hS (hA.sub (by simp[Op.operands]))
 case call c =>
  obtain⟨callee,args,vk⟩:=c;cases callee with
  | value x=>exact s_call rfl rfl hfun bB hB hrl hrec hG hc hk hdt hS (hA.sub (by simp[Op.operands,Call.operands]))
  | builtin b=>exact Rn bB hc hk hdt hS (hA.sub (by simp[Op.operands,Call.operands]))
  | invoke r nm=>simp[aV]at hc
 case panic x =>
  simp only[aV,Qd2]at hc;subst hc;simp[runK]at hk
 case makeInterface t x =>
  simp only[aV,Qd2]at hc;subst hc;simp[runK]at hk
 case makeMap t r=>exact aao hc hk hS
 case lookup t x ix ok=>exact adK bB hc hk hS (hA.sub (by simp[Op.operands]))
 case mapUpdate t m ix x=>exact adM hc hk hdt hS (hA.sub (by simp[Op.operands]))
 all_goals simp[aV]at hc
end step
end
end Fi
