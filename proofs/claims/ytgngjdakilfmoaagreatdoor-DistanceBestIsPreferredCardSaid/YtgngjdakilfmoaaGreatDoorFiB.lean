import Derived.Test.YtgngjdakilfmoaaGreatDoorFiA
import Derived.ChangeKeysEq
import Derived.Laws.StructEq
import Derived.MapKept
set_option linter.unusedVariables false
set_option linter.unusedSimpArgs false
namespace Fi
open Go
section
variable {mn:Prop}
def Yields (P:Program)(o:Oper)(ρ:Operand->Value)(w:World)(Φ:Value->World->Prop):Prop :=
 match (execOp ρ o).run P w with
 | .ok (.value x) w'=>Φ x w'
 | .ok .skip w'=>Φ undef w'
 | .ok (.enter f args) w'=>Calls P f args w' (fun e w''=>∃ x,e=.returned x/\Φ x w'')
 | _=>False
theorem Yields.wp {P:Program}{o:Oper}{a:Act}{w:World}{Φ:Value->World->Prop}(h:Yields P o a.eval w Φ){next:Act->World->Prop}{Q:Exit->Act->World->Prop}
  (hn:∀ x w',Φ x w'->next (a.put o.dst x) w'):o.wp P a w next Q:=by
 unfold Yields at h;unfold Oper.wp;generalize (execOp a.eval o).run P w=r at*;cases r with
 | ok x w' =>
  cases x<;>simp only[Oper.upon]at h ⊢<;>first
   | exact hn _ _ h
   | exact h.mono (fun e w'' ⟨x,he,hx⟩=>by subst he;exact hn _ _ hx)
   | exact h.elim
 | halt x w'=>exact h.elim
theorem Yields.mono {P:Program}{o:Oper}{ρ:Operand->Value}{w:World}{Φ Ψ:Value->World->Prop}(h:Yields P o ρ w Φ)(hm:∀ x w',Φ x w'->Ψ x w'):Yields P o ρ w Ψ:=by
 unfold Yields at*;generalize (execOp ρ o).run P w=r at*;cases r with
 | ok x w' =>
  cases x<;>simp only at h ⊢<;>first
   | exact hm _ _ h
   | exact h.mono (fun e w'' ⟨x,he,hx⟩=>⟨x,he,hm _ _ hx⟩)
   | exact h
 | halt x w'=>exact h
def Post (mn:Prop)(σ:Nat->Option FuncId)(n m:Nat)(β:Map)(I Wr:Nat->Prop)(wd:Nat->Prop)(w:World)(st':St)(v:FV)(x:Value)(w':World):Prop :=
 ∃ β' I',Ext mn β β' I I' Wr w w'/\bf σ n β' I' Wr wd (st'.base++st'.loc) w'/\aI σ β' I' w' n v x/\∀ k u,k<m->¬ wd k->β' k u=β k u
abbrev g_ (mn : Prop) (σ : Nat -> Option FuncId) (β : Map) (I Wr : Nat -> Prop) (wd : Nat -> Prop) (w : World) (st : St) := Post mn σ st.base.length (st.base ++ st.loc).length β I Wr wd w
section ops
variable {P:Program} {σ:Nat->Option FuncId} {n:Nat} {β:Map} {I Wr:Nat->Prop} {wd:Nat->Prop} {w:World} {st:St} {ρ:Operand->Value}
variable {dst:Option Tmp} {type:TypeId} {pos:String} {after:Array Edge} {guard:Option (Nat × Bool)}
theorem Post.same (hS:bf σ n β I Wr wd (st.base++st.loc) w){v:FV}{x:Value}(h:aI σ β I w n v x):Post mn σ n (st.base++st.loc).length β I Wr wd w st v x w :=
 ⟨β,I,Ext.refl _ _ _ _,hS,h,fun _ _ _ _=>rfl⟩
theorem aB {o:Oper}{x:Value}{w':World}{Φ:Value->World->Prop}(h:(execOp ρ o).run P w=.ok (.value x) w')(hx:Φ x w'):Yields P o ρ w Φ:=by
 unfold Yields;rw[h];exact hx
theorem tV {o:Oper}{w':World}{Φ:Value->World->Prop}(h:(execOp ρ o).run P w=.ok .skip w')(hx:Φ undef w'):Yields P o ρ w Φ:=by
 unfold Yields;rw[h];exact hx
theorem qg {t:TypeId}{g:Bool}(h:kV P t=some g)(w:World):(isAgg t).run P w=.ok g w:=by
 unfold kV at h;unfold isAgg;split at h<;>simp at h<;>subst h<;>rename_i h<;>simp[run_underlying h]
theorem run_sizeOf {t:TypeId}{m:Nat}(h:aZ P t=some m)(w:World):(Go.sizeOf t).run P w=.ok m w:=by
 unfold aZ at h;split at h<;>simp at h;subst h;rename_i h;simp[Go.sizeOf,typeInfo,h]
theorem aI.bool {v:Bool}{x:Value}(h:aI σ β I w n (.d (.v (.bool v))) x):x=.bool v:=by
 cases h with|d h=>cases h;rfl
theorem aI.val {v x:Value}(h:aI σ β I w n (.d (.v v)) x):x=v:=by
 cases h with|d h=>cases h;rfl
theorem aI.Qi (x:Value):aI σ β I w n (.d (.v x)) x:=.d (.v x)
theorem aim {op:Op}{x:Operand}{f:FV}(hop:op=.move x\/op=.assign x)(hS:bf σ n β I Wr wd (st.base++st.loc) w)(hf:aI σ β I w n f (ρ x)) :
  Yields P ⟨dst,op,type,pos,after,guard⟩ ρ w (Post mn σ n (st.base++st.loc).length β I Wr wd w st f):=by
 refine aB (x:=ρ x) (w':=w) ?_ (Post.same hS hf);rcases hop with rfl|rfl<;>rfl
theorem afk {c a b:Operand}{t:Bool}{f:FV}(hS:bf σ n β I Wr wd (st.base++st.loc) w)(hc:aI σ β I w n (.d (.v (.bool t))) (ρ c))(hf:aI σ β I w n f (ρ (if t then a else b))) :
  Yields P ⟨dst,.pick c a b,type,pos,after,guard⟩ ρ w (Post mn σ n (st.base++st.loc).length β I Wr wd w st f):=by
 refine aB (x:=ρ (if t then a else b)) (w':=w) ?_ (Post.same hS hf);have hb:=hc.bool;cases t<;>simp[execOp,asBool,hb]
theorem IP (op:BinOp)(t:TypeId)(x y:Operand)(a b:Value)(h:(∀ cs,a≠.agg cs)/\a≠.nilIface):eqGuard op t x y a b=pure ():=by
 obtain⟨h1,h2⟩:=h;unfold eqGuard;cases a<;>cases op<;>first
  | rfl
  | exact absurd rfl (h1 _)
  | exact absurd rfl h2
theorem Fs {op:BinOp}{p q v:Value}(h:iB op p q=some v)(t:TypeId)(w:World):(binOp op t p q).run P w=.ok v w/\(∀ cs,p≠.agg cs)/\p≠.nilIface:=by
 unfold iB at h;split at h
 ·rename_i k a k' b;refine⟨?_,(fun cs hc=>by cases hc),(fun hc=>by cases hc)⟩;cases op<;>simp only at h
  case shl =>
   split at h<;>simp at h;subst h;simp[binOp,Op.shift, *]
  case shr =>
   split at h<;>simp at h;subst h;simp[binOp,Op.shift, *]
  all_goals
   split at h
   ·rename_i hk;subst hk
    first
     | (simp at h;subst h;simp[binOp,Op.intArith,Op.intBits,Op.intCmp];done)
     | (split at h<;>simp at h;subst h;simp[binOp,Op.intDiv, *];done)
     | (simp at h;done)
   ·simp at h
 ·rename_i a b;refine⟨?_,(fun cs hc=>by cases hc),(fun hc=>by cases hc)⟩;cases op<;>simp only at h
  case add =>
   split at h
   ·simp at h
   ·rename_i hh;simp only[Qe0]at h;subst h;simp only[binOp,Op.stringOp];rw[if_neg hh];rfl
  all_goals first
   | (simp at h;subst h;simp[binOp,Op.stringOp];done)
   | (simp at h;done)
 ·simp at h
theorem ain {op:BinOp}{xt yt:TypeId}{x y:Operand}{p q v:Value}(hv:iB op p q=some v)(hS:bf σ n β I Wr wd (st.base++st.loc) w)
  (hx:aI σ β I w n (.d (.v p)) (ρ x)) (hy:aI σ β I w n (.d (.v q)) (ρ y)) :
  Yields P ⟨dst,.binOp op xt x y yt,type,pos,after,guard⟩ ρ w (Post mn σ n (st.base++st.loc).length β I Wr wd w st (.d (.v v))):=by
 refine aB (x:=v) (w':=w) ?_ (Post.same hS (.Qi _));obtain⟨h1,h2⟩:=Fs (P:=P) hv xt w;simp[execOp,hx.val,hy.val,IP _ _ _ _ _ _ h2,h1]
theorem run_equalIn_bool {t:TypeId}(ht:P.underlying t=some .bool)(p q:Bool)(d:Nat)(w:World):(Op.equalIn (d+1) t (.bool p) (.bool q)).run P w=.ok (p==q) w:=by
 simp only[Op.equalIn,Sem.run_bind,run_underlying ht,Result.andThen_ok];rfl
theorem run_equal_bool {t:TypeId}(ht:P.underlying t=some .bool)(p q:Bool)(w:World):(Op.equal t (.bool p) (.bool q)).run P w=.ok (p==q) w :=
 run_equalIn_bool ht p q 9999 w
theorem aio {neg:Bool}{op:BinOp}(hop:op=if neg then .neq else .eql){xt yt:TypeId}{x y:Operand}{p q:Bool}(ht:P.underlying xt=some .bool)(hS:bf σ n β I Wr wd (st.base++st.loc) w)
  (hx:aI σ β I w n (.d (.v (.bool p))) (ρ x)) (hy:aI σ β I w n (.d (.v (.bool q))) (ρ y)) :
  Yields P ⟨dst,.binOp op xt x y yt,type,pos,after,guard⟩ ρ w (Post mn σ n (st.base++st.loc).length β I Wr wd w st (.d (.v (.bool (if neg then !(p==q) else p==q))))):=by
 refine aB (x:=.bool (if neg then !(p==q) else p==q)) (w':=w) ?_ (Post.same hS (.Qi _));subst hop;have e1:binOp .eql xt (.bool p) (.bool q)=(do pure (.bool (<- Op.equal xt (.bool p) (.bool q)))):=rfl;have e2:binOp .neq xt (.bool p) (.bool q)=(do pure (.bool (!(<- Op.equal xt (.bool p) (.bool q))))):=rfl;cases neg
 ·simp only[execOp,hx.val,hy.val,eqGuard_at_bool,Qh1,if_false,e1];simp[run_equal_bool ht]
 ·simp only[execOp,hx.val,hy.val,eqGuard_at_bool,if_true,e2];simp[run_equal_bool ht]
theorem ak_ {op:UnOp}{xt:TypeId}{x:Operand}{p v:Value}(hv:unV op p=some v)(hS:bf σ n β I Wr wd (st.base++st.loc) w)(hx:aI σ β I w n (.d (.v p)) (ρ x)) :
  Yields P ⟨dst,.unOp op xt x,type,pos,after,guard⟩ ρ w (Post mn σ n (st.base++st.loc).length β I Wr wd w st (.d (.v v))):=by
 refine aB (x:=v) (w':=w) ?_ (Post.same hS (.Qi _));unfold unV at hv;split at hv<;>simp at hv<;>subst hv<;>simp[execOp,hx.val,Op.unary,Op.intArith,Op.intBits]
theorem afl {src dt:TypeId}{x:Operand}{k ks kx:IntKind}{m:Int}(h1:P.underlying src=some (.int ks))(h2:P.underlying dt=some (.int k))(hS:bf σ n β I Wr wd (st.base++st.loc) w)
  (hx:aI σ β I w n (.d (.v (.int kx m))) (ρ x)) :
  Yields P ⟨dst,.convert src dt x,type,pos,after,guard⟩ ρ w (Post mn σ n (st.base++st.loc).length β I Wr wd w st (.d (.v (.int k (k.wrap m))))):=by
 refine aB (x:=.int k (k.wrap m)) (w':=w) ?_ (Post.same hS (.Qi _));simp[execOp,hx.val,convert,run_underlying h1,run_underlying h2,Conv.intToInt]
theorem Gz {cs:List FV}{ds:List D}(h:jN cs=some ds):cs=ds.map .d:=by
 induction cs generalizing ds with
 | nil=>simp[jN]at h;subst h;rfl
 | cons c r ih =>
  cases c<;>simp only[jN]at h<;>first|(cases h;done)|skip
  split at h<;>simp at h;subst h;rename_i h;simp[ih h]
theorem aI.Qr {cs:List FV}{vs:Array Value}(hl:vs.size=cs.length)(h:∀ (i:Nat) (c:FV) (x:Value),cs[i]?=some c->vs[i]?=some x->aI σ β I w n c x):aI σ β I w n (Qr cs) (.agg vs):=by
 unfold Fi.Qr;split
 ·rename_i ds hd;have:=Gz hd;subst this;refine .d (.a (by simpa using hl) fun i c x hc hx => ?_);have:=h i (.d c) x (by simp[hc]) hx;cases this with|d h=>exact h
 ·exact .a hl h
theorem aI.rH {cs:List FV}{vs:Array Value}(hl:vs.size=cs.length)(h:∀ (i:Nat) (c:FV) (x:Value),cs[i]?=some c->vs[i]?=some x->aI σ β I w n c x):aI σ β I w n (rH cs) (.tuple vs):=by
 unfold Fi.rH;split
 ·rename_i ds hd;have:=Gz hd;subst this;refine .d (.t (by simpa using hl) fun i c x hc hx => ?_);have:=h i (.d c) x (by simp[hc]) hx;cases this with|d h=>exact h
 ·exact .t hl h
theorem GA {cs:List D}{vs:Array Value}(hl:vs.size=cs.length)(h:∀ (i:Nat) (c:D) (x:Value),cs[i]?=some c->vs[i]?=some x->bE σ I w c x){agg:Bool}{off m:Nat}{v:D}
  (hp:iI cs agg off m=some v):∃ x,(if agg then some (Value.agg (vs.extract off (off+m))) else vs[off]?)=some x/\bE σ I w v x:=by
 unfold iI at hp;cases agg
 ·simp only[Qh1,if_false]at hp ⊢;have hlt:off<cs.length:=(aT hp)
  exact⟨vs[off]'(by omega),by simp[hl,hlt],h off v _ hp (by simp[hl,hlt])⟩
 ·simp only[if_true]at hp ⊢;split at hp<;>simp at hp;subst hp;rename_i hle;refine⟨_,rfl,.a (by simp;omega) fun i c x hc hx => ?_⟩;simp only[Qp0,Qx2]at hc;split at hc
  ·rename_i hi;refine h (off+i) c x hc ?_;rw[Xn1]at hx;split at hx
   ·exact hx
   ·cases hx
  ·cases hc
theorem GD {cs:List FV}{vs:Array Value}(hl:vs.size=cs.length)(h:∀ (i:Nat) (c:FV) (x:Value),cs[i]?=some c->vs[i]?=some x->aI σ β I w n c x){agg:Bool}{off m:Nat}{v:FV}
  (hp:rY cs agg off m=some v):∃ x,(if agg then some (Value.agg (vs.extract off (off+m))) else vs[off]?)=some x/\aI σ β I w n v x:=by
 unfold rY at hp;cases agg
 ·simp only[Qh1,if_false]at hp ⊢;have hlt:off<cs.length:=(aT hp)
  exact⟨vs[off]'(by omega),by simp[hl,hlt],h off v _ hp (by simp[hl,hlt])⟩
 ·simp only[if_true]at hp ⊢;split at hp<;>simp at hp;subst hp;rename_i hle;refine⟨_,rfl,aI.Qr (by simp;omega) fun i c x hc hx => ?_⟩;simp only[Qp0,Qx2]at hc;split at hc
  ·rename_i hi;refine h (off+i) c x hc ?_;rw[Xn1]at hx;split at hx
   ·exact hx
   ·cases hx
  ·cases hc
theorem Ep {t:TypeId}{g:Bool}{m off:Nat}{vs:Array Value}{x:Value}(hg:kV P t=some g)(hm:aZ P t=some m)
  (hx:(if g then some (Value.agg (vs.extract off (off+m))) else vs[off]?)=some x) (w:World):(part t vs off).run P w=.ok x w:=by
 unfold part;cases g
 ·simp only[Qh1,if_false]at hx;simp[qg hg,hx]
 ·simp only[if_true]at hx;cases hx;simp[qg hg,run_sizeOf hm]
theorem Yh {s:TypeId}{x:Operand}{i:Nat}{fs:Array Field}{fl:Field}{g:Bool}{m:Nat}{cs:List FV}{v:FV}(hs:P.underlying s=some (.struct fs))(hfl:fs[i]?=some fl)
  (hg:kV P fl.type=some g) (hm:aZ P fl.type=some m) (hv:rY cs g fl.offset m=some v) (hS:bf σ n β I Wr wd (st.base++st.loc) w) (hx:aI σ β I w n (.a cs) (ρ x)) :
  Yields P ⟨dst,.field s x i,type,pos,after,guard⟩ ρ w (Post mn σ n (st.base++st.loc).length β I Wr wd w st v):=by
 generalize hρ:ρ x=xv at hx;cases hx with
 | a hl h =>
  rename_i vs;obtain⟨y,hy1,hy2⟩:=GD hl h hv;refine aB (x:=y) (w':=w) ?_ (Post.same hS hy2);simp[execOp,hρ,Instr.field,run_underlying hs,hfl,asAgg,Ep hg hm hy1]
theorem Yi {s:TypeId}{x:Operand}{i:Nat}{fs:Array Field}{fl:Field}{g:Bool}{m:Nat}{cs:List D}{v:D}(hs:P.underlying s=some (.struct fs))(hfl:fs[i]?=some fl)
  (hg:kV P fl.type=some g) (hm:aZ P fl.type=some m) (hv:iI cs g fl.offset m=some v) (hS:bf σ n β I Wr wd (st.base++st.loc) w) (hx:aI σ β I w n (.d (.a cs)) (ρ x)) :
  Yields P ⟨dst,.field s x i,type,pos,after,guard⟩ ρ w (Post mn σ n (st.base++st.loc).length β I Wr wd w st (.d v)):=by
 generalize hρ:ρ x=xv at hx;cases hx with
 | d hx =>
  cases hx with
  | a hl h =>
   rename_i vs;obtain⟨y,hy1,hy2⟩:=GA hl h hv;refine aB (x:=y) (w':=w) ?_ (Post.same hS (.d hy2));simp[execOp,hρ,Instr.field,run_underlying hs,hfl,asAgg,Ep hg hm hy1]
theorem lZ (k:IntKind)(j:Int):asIntOf (.int k j)=pure (k,j):=rfl
theorem abW {t e:TypeId}{x ix:Operand}{len sz:Nat}{g:Bool}{cs:List D}{v:D}{k:IntKind}{j:Int}(ht:P.underlying t=some (.array len e))(hg:kV P e=some g)(hm:aZ P e=some sz)
  (h0:0<=j) (h1:j<len) (hv:iI cs g (j.toNat*sz) sz=some v) (hS:bf σ n β I Wr wd (st.base++st.loc) w) (hx:aI σ β I w n (.d (.a cs)) (ρ x)) (hi:aI σ β I w n (.d (.v (.int k j))) (ρ ix)) :
  Yields P ⟨dst,.index t x ix,type,pos,after,guard⟩ ρ w (Post mn σ n (st.base++st.loc).length β I Wr wd w st (.d v)):=by
 generalize hρ:ρ x=xv at hx;cases hx with
 | d hx =>
  cases hx with
  | a hl h =>
   rename_i vs;obtain⟨y,hy1,hy2⟩:=GA hl h hv;refine aB (x:=y) (w':=w) ?_ (Post.same hS (.d hy2));simp[execOp,hρ,hi.val,Instr.index,run_underlying ht,lZ,h0,h1,run_sizeOf hm,Ep hg hm hy1]
theorem Yj {t:TypeId}{x ix:Operand}{s:ByteArray}{k:IntKind}{j:Int}{b:UInt8}(ht:P.underlying t=some .string)(h0:0<=j)(hb:s[j.toNat]?=some b)
  (hS:bf σ n β I Wr wd (st.base++st.loc) w) (hx:aI σ β I w n (.d (.v (.string s))) (ρ x)) (hi:aI σ β I w n (.d (.v (.int k j))) (ρ ix)) :
  Yields P ⟨dst,.index t x ix,type,pos,after,guard⟩ ρ w (Post mn σ n (st.base++st.loc).length β I Wr wd w st (.d (.v (.int .u8 b.toNat)))):=by
 refine aB (x:=.int .u8 b.toNat) (w':=w) ?_ (Post.same hS (.Qi _));simp[execOp,hx.val,hi.val,Instr.index,run_underlying ht,lZ,h0,hb]
theorem afm {x:Operand}{i:Nat}{vs:List D}{v:D}(hv:vs[i]?=some v)(hS:bf σ n β I Wr wd (st.base++st.loc) w)(hx:aI σ β I w n (.d (.t vs)) (ρ x)) :
  Yields P ⟨dst,.extract x i,type,pos,after,guard⟩ ρ w (Post mn σ n (st.base++st.loc).length β I Wr wd w st (.d v)):=by
 generalize hρ:ρ x=xv at hx;cases hx with
 | d hx =>
  cases hx with
  | t hl h =>
   rename_i us;have hlt:i<vs.length:=(aT hv)
   have hu:us[i]?=some (us[i]'(by omega)):=by simp[hl,hlt]
   refine aB (x:=us[i]'(by omega)) (w':=w) ?_ (Post.same hS (.d (h i v _ hv hu)));simp[execOp,hρ,Instr.extract,hu]
theorem afn {x:Operand}{i:Nat}{vs:List FV}{v:FV}(hv:vs[i]?=some v)(hS:bf σ n β I Wr wd (st.base++st.loc) w)(hx:aI σ β I w n (.t vs) (ρ x)) :
  Yields P ⟨dst,.extract x i,type,pos,after,guard⟩ ρ w (Post mn σ n (st.base++st.loc).length β I Wr wd w st v):=by
 generalize hρ:ρ x=xv at hx;cases hx with
 | t hl h =>
  rename_i us;have hlt:i<vs.length:=(aT hv)
  have hu:us[i]?=some (us[i]'(by omega)):=by simp[hl,hlt]
  refine aB (x:=us[i]'(by omega)) (w':=w) ?_ (Post.same hS (h i v _ hv hu));simp[execOp,hρ,Instr.extract,hu]
end ops
end
section
variable {mn:Prop}
section cells
variable {P:Program} {σ:Nat->Option FuncId} {n:Nat} {β:Map} {I Wr:Nat->Prop} {wd:Nat->Prop} {w:World}
theorem AtD.values {b off:Nat}{cs:List D}(h:AtD σ I w b off cs):∃ xs:List Value,xs.length=cs.length/\(∀ (j:Nat) (x:Value),xs[j]?=some x->w.cell? ⟨b,off+j,none⟩=some x) /\
  ∀ (j:Nat) (c:D) (x:Value),cs[j]?=some c->xs[j]?=some x->bE σ I w c x:=by
 induction cs generalizing off with
 | nil=>exact⟨[],rfl,fun j x h=>by simp at h,fun j c x h=>by simp at h⟩
 | cons c cs ih =>
  obtain⟨x,h1,h2⟩:=h 0 c aC;obtain⟨xs,g1,g2,g3⟩:=ih (off:=off+1) (fun j c' hc=>by
   obtain⟨y,e1,e2⟩:=h (j+1) c' (by simpa using hc);exact⟨y,by rw[show off+1+j=off+(j+1) by omega];exact e1,e2⟩)
  refine⟨x::xs,by simp[g1],?_,?_⟩
  ·intro j y hy;cases j with
   | zero=>simp at hy;subst hy;exact h1
   | succ j=>rw[show off+(j+1)=off+1+j by omega];exact g2 j y (by simpa using hy)
  ·intro j c' y hc hy;cases j with
   | zero=>simp at hc hy;subst hc;subst hy;exact h2
   | succ j=>exact g3 j c' y (by simpa using hc) (by simpa using hy)
theorem AtD.sub {b off k m:Nat}{cs:List D}(h:AtD σ I w b off cs):AtD σ I w b (off+k) ((cs.drop k).take m):=by
 intro j c hc;simp only[Qp0,Qx2]at hc;split at hc
 ·obtain⟨x,h1,h2⟩:=h (k+j) c hc;exact⟨x,by rw[show off+k+j=off+(k+j) by omega];exact h1,h2⟩
 ·cases hc
theorem AtD.at_ {b off k:Nat}{cs:List D}{c:D}(h:AtD σ I w b off cs)(hk:cs[k]?=some c):AtD σ I w b (off+k) [c]:=by
 intro j d hd;cases j with
 | zero=>simp at hd;subst hd;exact h k c hk
 | succ j=>simp at hd
theorem ku (b o k:Nat):(⟨b,o,none⟩:Addr).add k=⟨b,o+k,none⟩:=by unfold Addr.add;split<;>simp_all
theorem iK {t:TypeId}{g:Bool}{m:Nat}(hg:kV P t=some g)(hm:aZ P t=some m){b off:Nat}{xs:List Value}{x:Value}
  (hc:∀ (j:Nat) (x:Value),xs[j]?=some x->w.cell? ⟨b,off+j,none⟩=some x)
  (hx:if g then xs.length=m/\x=.agg xs.toArray else xs[0]?=some x):(loadVar t ⟨b,off,none⟩).run P w=.ok x w:=by
 unfold loadVar;cases g
 ·simp only[Qh1,if_false]at hx;have h:=hc 0 x hx;rw[Q52]at h;simp[qg hg,h]
 ·simp only[if_true]at hx;obtain⟨rfl,rfl⟩:=hx;have:=run_loadCells_list (P:=P) w ⟨b,off,none⟩ xs (fun j v hv=>by rw[ku];exact hc j v hv);simp[qg hg,run_sizeOf hm,this]
theorem Lj {t:TypeId}{g:Bool}{m off:Nat}(hg:kV P t=some g)(hm:aZ P t=some m){b base:Nat}{cs:List D}{v:D}(h:AtD σ I w b base cs)(hp:iI cs g off m=some v) :
  ∃ x,(loadVar t ⟨b,base+off,none⟩).run P w=.ok x w/\bE σ I w v x:=by
 unfold iI at hp;cases g
 ·simp only[Qh1,if_false]at hp;obtain⟨x,h1,h2⟩:=h off v hp;exact⟨x,iK hg hm (xs:=[x]) (fun j y hy=>by
   cases j with
   | zero=>simp at hy;subst hy;exact h1
   | succ j=>simp at hy) aC,h2⟩
 ·simp only[if_true]at hp;split at hp<;>simp at hp;subst hp;rename_i hle;obtain⟨xs,g1,g2,g3⟩:=(h.sub (k:=off) (m:=m)).values;have hl:xs.length=m:=by rw[g1];simp;omega
  exact⟨.agg xs.toArray,iK hg hm g2 (by simp[hl]),.a (by simpa using g1) (fun i c x hc hx=>g3 i c x hc (by simpa using hx))⟩
theorem Ll {t:TypeId}{g:Bool}{m off:Nat}(hg:kV P t=some g)(hm:aZ P t=some m){b:Nat}{c:Array Value}{e:TypeId}{fr:Nat × Nat}(hb:w.heap[b]?=some (.cells c e fr))
  {cs:List FV} {v:FV} (hl:c.size=cs.length) (h:∀ (i:Nat) (f:FV) (x:Value),cs[i]?=some f->c[i]?=some x->aI σ β I w n f x) (hp:rY cs g off m=some v) :
  ∃ x,(loadVar t ⟨b,off,none⟩).run P w=.ok x w/\aI σ β I w n v x:=by
 obtain⟨x,hx,hr⟩:=GD hl h hp;refine⟨x,?_,hr⟩;have hcell:∀ k,w.cell? ⟨b,k,none⟩=c[k]?:=fun k=>by simp[World.cell?,hb]
 cases g
 ·simp only[Qh1,if_false]at hx;exact iK hg hm (xs:=[x]) (fun j y hy=>by
   cases j with
   | zero=>simp at hy;subst hy;rw[hcell];exact hx
   | succ j=>simp at hy) aC
 ·simp only[if_true]at hx;cases hx;have hle:off+m<=c.size:=by
   unfold rY at hp;simp only[if_true]at hp;split at hp
   ·omega
   ·cases hp
  refine iK hg hm (xs:=(c.extract off (off+m)).toList) (fun j y hy => ?_) (by simp only[if_true,Xd1,Array.size_extract];exact⟨ae,aC⟩);rw[hcell];have hy2:(c.extract off (off+m))[j]?=some y:=by rw[<-Qt0];exact hy
  rw[Xn1]at hy2;split at hy2
  ·exact hy2
  ·cases hy2
end cells
section ops
variable {P:Program} {σ:Nat->Option FuncId} {β:Map} {I Wr:Nat->Prop} {wd:Nat->Prop} {w:World} {st:St} {ρ:Operand->Value}
variable {dst:Option Tmp} {type:TypeId} {pos:String} {after:Array Edge} {guard:Option (Nat × Bool)}
theorem zN {t:TypeId}{x:Operand}{b off:Nat}{y:Value}{v:FV}(hρ:ρ x=.pointer (some ⟨b,off,none⟩))(hl:(loadVar t ⟨b,off,none⟩).run P w=.ok y w)
  (hS:fQ σ β I Wr wd w st) (hr:aI σ β I w st.base.length v y):Yields P ⟨dst,.load t x,type,pos,after,guard⟩ ρ w (g_ mn σ β I Wr wd w st st v):=by
 refine aB (x:=y) (w':=w) ?_ (Post.same hS hr);simp[execOp,hρ,Instr.loadAt,Instr.sureAddr,hl]
theorem Yk {t:TypeId}{x:Operand}{q:Ref}{off m:Nat}{g:Bool}{cs:List FV}{v:FV}(hg:kV P t=some g)(hm:aZ P t=some m)(hq:st.heap q=some (.box cs))(hv:rY cs g off m=some v)
  (hS:fQ σ β I Wr wd w st) (hx:aI σ β I w st.base.length (.r q off) (ρ x)):Yields P ⟨dst,.load t x,type,pos,after,guard⟩ ρ w (g_ mn σ β I Wr wd w st st v):=by
 generalize hρ:ρ x=xv at hx;cases hx with
 | r hb =>
  rw[St.fP]at hq;obtain⟨rfl,c,e,h1,h2,h3⟩:=hS.box _ _ _ _ _ hq hb;obtain⟨y,hy1,hy2⟩:=Ll hg hm h1 h2 h3 hv;exact zN (by rw[hρ,Qz2]) hy1 hS hy2
theorem Yl {t:TypeId}{x:Operand}{q:Ref}{av sz i off m:Nat}{g:Bool}{es:List D}{e v:D}(hg:kV P t=some g)(hm:aZ P t=some m)
  (hq:st.heap q=some (.row av sz es)\/st.heap q=some (.h_ av sz es)) (he:es[i]?=some e) (hv:iI e.cells g off m=some v)
  (hS:fQ σ β I Wr wd w st) (hx:aI σ β I w st.base.length (.e q av sz i off) (ρ x)):Yields P ⟨dst,.load t x,type,pos,after,guard⟩ ρ w (g_ mn σ β I Wr wd w st st (.d v)):=by
 generalize hρ:ρ x=xv at hx;cases hx with
 | e hb =>
  rw[St.fP]at hq;have hat:=hq.elim (fun hq=>(hS.row _ _ _ _ _ _ _ hq hb).1) (fun hq=>(hS.h_ _ _ _ _ _ _ _ hq hb).1);obtain⟨y,hy1,hy2⟩:=Lj hg hm (hat.at_ i e he) hv;exact zN hρ hy1 hS (.d hy2)
theorem Sq {t:TypeId}{x:Operand}{m:Nat}{g:Bool}{y v:D}(hg:kV P t=some g)(hm:aZ P t=some m)(hv:iI y.cells g 0 m=some v)
  (hS:fQ σ β I Wr wd w st) (hx:aI σ β I w st.base.length (.rc y) (ρ x)):Yields P ⟨dst,.load t x,type,pos,after,guard⟩ ρ w (g_ mn σ β I Wr wd w st st (.d v)):=by
 generalize hρ:ρ x=xv at hx;cases hx with
 | rc _ _ hat =>
  obtain⟨z,hz1,hz2⟩:=Lj hg hm hat hv;exact zN hρ hz1 hS (.d hz2)
theorem Er {b o m:Nat}{fl:Field}(hm:aZ P fl.type=some m)(h0:m≠0):(fieldPlace ⟨b,o,none⟩ fl).run P w=.ok ⟨b,o+fl.offset,none⟩ w:=by
 simp[fieldPlace,run_sizeOf hm,h0,ku]
theorem wG {s:TypeId}{x:Operand}{i:Nat}{fs:Array Field}{fl:Field}{m b o:Nat}{v:FV}(hs:P.underlying s=some (.struct fs))(hfl:fs[i]?=some fl)(hm:aZ P fl.type=some m)(h0:m≠0)
  (hρ:ρ x=.pointer (some ⟨b,o,none⟩)) (hS:fQ σ β I Wr wd w st) (hr:aI σ β I w st.base.length v (.pointer (some ⟨b,o+fl.offset,none⟩))) :
  Yields P ⟨dst,.fieldAddr s x i,type,pos,after,guard⟩ ρ w (g_ mn σ β I Wr wd w st st v):=by
 refine aB (w':=w) ?_ (Post.same hS hr);simp[execOp,hρ,Instr.fieldAt,run_underlying hs,hfl,Instr.sureAddr,Er hm h0]
theorem Sr {s:TypeId}{x:Operand}{i:Nat}{fs:Array Field}{fl:Field}{m o:Nat}{q:Ref}(hs:P.underlying s=some (.struct fs))(hfl:fs[i]?=some fl)(hm:aZ P fl.type=some m)(h0:m≠0)
  (hS:fQ σ β I Wr wd w st) (hx:aI σ β I w st.base.length (.r q o) (ρ x)) :
  Yields P ⟨dst,.fieldAddr s x i,type,pos,after,guard⟩ ρ w (g_ mn σ β I Wr wd w st st (.r q (o+fl.offset))):=by
 generalize hρ:ρ x=xv at hx;cases hx with
 | r hb=>exact wG hs hfl hm h0 hρ hS (by rw[Qr0];exact .r hb)
theorem Su {s:TypeId}{x:Operand}{i:Nat}{fs:Array Field}{fl:Field}{m av sz j o:Nat}{q:Ref}(hs:P.underlying s=some (.struct fs))(hfl:fs[i]?=some fl)(hm:aZ P fl.type=some m)(h0:m≠0)
  (hS:fQ σ β I Wr wd w st) (hx:aI σ β I w st.base.length (.e q av sz j o) (ρ x)) :
  Yields P ⟨dst,.fieldAddr s x i,type,pos,after,guard⟩ ρ w (g_ mn σ β I Wr wd w st st (.e q av sz j (o+fl.offset))):=by
 generalize hρ:ρ x=xv at hx;cases hx with
 | e hb=>exact wG hs hfl hm h0 hρ hS (by rw[Qr0];exact .e hb)
theorem D.uS {c:D}(h:c.one=true):c.cells=[c]:=by cases c<;>first|rfl|(simp[D.one]at h)
theorem IQ {b o off m:Nat}{g:Bool}{y v:D}(hb:I b)(ho:∀ c ∈ y.cells,c.one=true)(hat:AtD σ I w b o y.cells)(hv:iI y.cells g off m=some v){n:Nat} :
  aI σ β I w n (.rc v) (.pointer (some ⟨b,o+off,none⟩)):=by
 unfold iI at hv;cases g
 ·simp only[Qh1,if_false]at hv;have h1:=ho v (Qa2 hv);refine .rc hb ?_ ?_
  ·rw[D.uS h1];intro c hc;simp at hc;subst hc;exact h1
  ·rw[D.uS h1];exact hat.at_ hv
 ·simp only[if_true]at hv;split at hv<;>simp at hv;subst hv;exact .rc hb (fun c hc=>ho c (Q32 (Qn1 hc))) hat.sub
theorem Oo {s:TypeId}{x:Operand}{i:Nat}{fs:Array Field}{fl:Field}{m:Nat}{g:Bool}{y v:D}(hs:P.underlying s=some (.struct fs))(hfl:fs[i]?=some fl)(hm:aZ P fl.type=some m)(h0:m≠0)
  (hv:iI y.cells g fl.offset m=some v) (hS:fQ σ β I Wr wd w st) (hx:aI σ β I w st.base.length (.rc y) (ρ x)) :
  Yields P ⟨dst,.fieldAddr s x i,type,pos,after,guard⟩ ρ w (g_ mn σ β I Wr wd w st st (.rc v)):=by
 generalize hρ:ρ x=xv at hx;cases hx with
 | rc hb ho hat=>exact wG hs hfl hm h0 hρ hS (IQ hb ho hat hv)
theorem tX {t e:TypeId}{a:Addr}{len cap sz:Nat}{k:IntKind}{j:Int}(ht:P.underlying t=some (.slice e))(hm:aZ P e=some sz)(h0:0<=j)(h1:j<len) :
  (Instr.indexAt t (.slice (some a) len cap) (.int k j)).run P w=.ok (.pointer (some (a.add (j.toNat*sz)))) w:=by
 simp[Instr.indexAt,lZ,run_underlying ht,h0,h1,run_sizeOf hm]
theorem Bb {t e:TypeId}{a:Addr}{len sz:Nat}{k:IntKind}{j:Int}(ht:P.underlying t=some (.array len e))(hm:aZ P e=some sz)(h0:0<=j)(h1:j<len) :
  (Instr.indexAt t (.pointer (some a)) (.int k j)).run P w=.ok (.pointer (some (a.add (j.toNat*sz)))) w:=by
 simp[Instr.indexAt,lZ,run_underlying ht,Instr.sureAddr,h0,h1,run_sizeOf hm]
theorem Oq {t e:TypeId}{x ix:Operand}{q:Ref}{av sz off m:Nat}{k:IntKind}{j:Int}(ht:P.underlying t=some (.slice e))(hm:aZ P e=some sz)(h0:0<=j)(h1:j<m)
  (hS:fQ σ β I Wr wd w st) (hx:aI σ β I w st.base.length (.ls q av sz off m) (ρ x)) (hi:aI σ β I w st.base.length (.d (.v (.int k j))) (ρ ix)) :
  Yields P ⟨dst,.indexAddr t x ix,type,pos,after,guard⟩ ρ w (g_ mn σ β I Wr wd w st st (.e q av sz (off+j.toNat) 0)):=by
 generalize hρ:ρ x=xv at hx;cases hx with
 | ls hb hl ho =>
  rename_i b bo cap o;have Jg:=ho ae;refine aB (x:=.pointer (some ⟨b,bo+(off+j.toNat)*sz+0,none⟩)) (w':=w) ?_ (Post.same hS (.e hb));have he:o+j.toNat*sz=bo+(off+j.toNat)*sz+0:=by rw[Jg,Qq1];omega
  simp only[execOp,hρ,hi.val,Sem.run_bind,tX ht hm h0 h1,Result.andThen_ok,ku,he];rfl
theorem Sw {t e:TypeId}{x ix:Operand}{sz:Nat}{es:List D}{y:D}{k:IntKind}{j:Int}(ht:P.underlying t=some (.slice e))(hm:aZ P e=some sz)(h0:0<=j)(hy:es[j.toNat]?=some y)
  (hS:fQ σ β I Wr wd w st) (hx:aI σ β I w st.base.length (.d (.s sz es)) (ρ x)) (hi:aI σ β I w st.base.length (.d (.v (.int k j))) (ρ ix)) :
  Yields P ⟨dst,.indexAddr t x ix,type,pos,after,guard⟩ ρ w (g_ mn σ β I Wr wd w st st (.rc y)):=by
 generalize hρ:ρ x=xv at hx;cases hx with
 | d hx =>
  have hlt:j.toNat<es.length:=(aT hy)
  cases hx with
  | s0=>simp at hy
  | s1=>simp at hy
  | s u hb hc hsz hone hcell hrep =>
   rename_i b off cap;refine aB (x:=.pointer (some ⟨b,off+j.toNat*sz,none⟩)) (w':=w) ?_ (Post.same hS (.rc hb (hone y (Qa2 hy)) fun i c hc'=>⟨u j.toNat i,hcell _ _ _ _ hy hc',hrep _ _ _ _ hy hc'⟩));simp only[execOp,hρ,hi.val,Sem.run_bind,tX ht hm h0 (by omega:j<es.length),Result.andThen_ok,ku];rfl
theorem wH {t e:TypeId}{x ix:Operand}{len sz b o:Nat}{v:FV}{k:IntKind}{j:Int}(ht:P.underlying t=some (.array len e))(hm:aZ P e=some sz)(h0:0<=j)(h1:j<len)
  (hS:fQ σ β I Wr wd w st) (hρ:ρ x=.pointer (some ⟨b,o,none⟩)) (hr:aI σ β I w st.base.length v (.pointer (some ⟨b,o+j.toNat*sz,none⟩))) (hi:aI σ β I w st.base.length (.d (.v (.int k j))) (ρ ix)) :
  Yields P ⟨dst,.indexAddr t x ix,type,pos,after,guard⟩ ρ w (g_ mn σ β I Wr wd w st st v):=by
 refine aB (w':=w) ?_ (Post.same hS hr);simp only[execOp,hρ,hi.val,Sem.run_bind,Bb ht hm h0 h1,Result.andThen_ok,ku];rfl
theorem Sy {t e:TypeId}{x ix:Operand}{len sz o:Nat}{q:Ref}{k:IntKind}{j:Int}(ht:P.underlying t=some (.array len e))(hm:aZ P e=some sz)(h0:0<=j)(h1:j<len)
  (hS:fQ σ β I Wr wd w st) (hx:aI σ β I w st.base.length (.r q o) (ρ x)) (hi:aI σ β I w st.base.length (.d (.v (.int k j))) (ρ ix)) :
  Yields P ⟨dst,.indexAddr t x ix,type,pos,after,guard⟩ ρ w (g_ mn σ β I Wr wd w st st (.r q (o+j.toNat*sz))):=by
 generalize hρ:ρ x=xv at hx;cases hx with
 | r hb=>exact wH ht hm h0 h1 hS hρ (by rw[Qr0];exact .r hb) hi
theorem Sz {t e:TypeId}{x ix:Operand}{len sz o av s i:Nat}{q:Ref}{k:IntKind}{j:Int}(ht:P.underlying t=some (.array len e))(hm:aZ P e=some sz)(h0:0<=j)(h1:j<len)
  (hS:fQ σ β I Wr wd w st) (hx:aI σ β I w st.base.length (.e q av s i o) (ρ x)) (hi:aI σ β I w st.base.length (.d (.v (.int k j))) (ρ ix)) :
  Yields P ⟨dst,.indexAddr t x ix,type,pos,after,guard⟩ ρ w (g_ mn σ β I Wr wd w st st (.e q av s i (o+j.toNat*sz))):=by
 generalize hρ:ρ x=xv at hx;cases hx with
 | e hb=>exact wH ht hm h0 h1 hS hρ (by rw[Qr0];exact .e hb) hi
theorem Ot {t e:TypeId}{x ix:Operand}{len sz:Nat}{g:Bool}{y v:D}{k:IntKind}{j:Int}(ht:P.underlying t=some (.array len e))(hm:aZ P e=some sz)(h0:0<=j)(h1:j<len)
  (hv:iI y.cells g (j.toNat*sz) sz=some v) (hS:fQ σ β I Wr wd w st) (hx:aI σ β I w st.base.length (.rc y) (ρ x)) (hi:aI σ β I w st.base.length (.d (.v (.int k j))) (ρ ix)) :
  Yields P ⟨dst,.indexAddr t x ix,type,pos,after,guard⟩ ρ w (g_ mn σ β I Wr wd w st st (.rc v)):=by
 generalize hρ:ρ x=xv at hx;cases hx with
 | rc hb ho hat=>exact wH ht hm h0 h1 hS hρ (IQ hb ho hat hv) hi
theorem bE.oneCell {c:D}{x:Value}(h:bE σ I w c x)(ho:c.one=true):x.oneCell'=true:=by
 cases h<;>first
  | rfl
  | (simp[D.one]at ho;done)
  | (cases x<;>first | rfl | (simp[D.one,uW]at ho))
theorem aI.oneCell {n:Nat}{f:FV}{x:Value}(h:aI σ β I w n f x)(ho:f.one=true):x.oneCell'=true:=by
 cases h with
 | u=>simp[FV.one]at ho
 | d h=>exact h.oneCell ho
 | _=>first | rfl | (simp[FV.one]at ho)
theorem aI.cells {n:Nat}{f:FV}{x:Value}(h:aI σ β I w n f x)(ho:f.cells.all FV.one=true) :
  x.cells.size=f.cells.length/\(∀ (i:Nat) (c:FV) (y:Value),f.cells[i]?=some c->x.cells[i]?=some y->aI σ β I w n c y)/\∀ y ∈ x.cells.toList,y.oneCell'=true:=by
 have key:∀ (cs:List FV) (vs:Array Value),vs.size=cs.length->(∀ (i:Nat) (c:FV) (y:Value),cs[i]?=some c->vs[i]?=some y->aI σ β I w n c y)->cs.all FV.one=true->∀ y ∈ vs.toList,y.oneCell'=true:=by
  intro cs vs hl h ho y hy;obtain⟨i,hi,rfl⟩:=X40.1 hy;have hi':i<vs.size:=by simpa using hi
  have hc:cs[i]?=some (cs[i]'(by omega)):=aC;refine(h i _ _ hc (by simp[hi'])).oneCell ?_;exact Qh2.1 ho _ (Qi0 _)
 have single:∀ (f:FV) (x:Value),aI σ β I w n f x->f.cells=[f]->f.one=true->x.cells.size=f.cells.length/\(∀ (i:Nat) (c:FV) (y:Value),f.cells[i]?=some c->x.cells[i]?=some y->aI σ β I w n c y)/\∀ y ∈ x.cells.toList,y.oneCell'=true:=by
  intro f x h hf ho;have h1:=h.oneCell ho;have hx:x.cells=#[x]:=by cases x<;>first|rfl|(simp[Value.oneCell']at h1)
  rw[hf,hx];refine⟨rfl,fun i c y hc hy => ?_,fun y hy=>by simp at hy;subst hy;exact h1⟩;cases i with
  | zero=>simp at hc hy;subst hc;subst hy;exact h
  | succ i=>simp at hc
 cases f with
 | a cs =>
  cases h with
  | a hl h=>exact⟨hl,h,key cs _ hl h ho⟩
 | d y =>
  cases y with
  | a cs =>
   cases h with
   | d h =>
    cases h with
    | a hl h =>
     rename_i vs;have h':∀ (i:Nat) (c:FV) (z:Value),(cs.map FV.d)[i]?=some c->vs[i]?=some z->aI σ β I w n c z:=by
      intro i c z hc hz;simp only[Qb1,Qf1]at hc;obtain⟨d,hd,rfl⟩:=hc;exact .d (h i d z hd hz)
     exact⟨by show vs.size=(cs.map FV.d).length;rw[Qj1];exact hl,h',key _ vs (by rw[Qj1];exact hl) h' ho⟩
  | _=>exact single _ _ h rfl (by simpa[FV.cells] using ho)
 | _=>exact single _ _ h rfl (by simpa[FV.cells] using ho)
theorem bE.di {c:D}{x:Value}(h:bE σ I w c x):bE σ I w c.di x:=by
 cases h with
 | n sz=>exact .s0 sz
 | v x=>exact .v x
 | fn h=>exact .fn h
 | i t x=>exact .i t x
 | s0 sz=>exact .s0 sz
 | s1 sz a cap=>exact .s1 sz a cap
 | s u h1 h2 h3 h4 h5 h6=>exact .s u h1 h2 h3 h4 h5 h6
 | a h1 h2=>exact .a h1 h2
 | t h1 h2=>exact .t h1 h2
theorem bE.norm {c:D}{x:Value}(h:bE σ I w c x):bE σ I w c.norm x:=by
 cases h with
 | n sz=>exact .s0 sz
 | v x=>exact .v x
 | fn h=>exact .fn h
 | i t x=>exact .i t x
 | s0 sz=>exact .s0 sz
 | s1 sz a cap=>exact .s1 sz a cap
 | s u h1 h2 h3 h4 h5 h6=>exact .s u h1 h2 h3 h4 h5 h6
 | a h1 h2=>exact .a (by simpa using h1) (fun i c y hc hy=>by
   simp only[Qb1,Qf1]at hc;obtain⟨d,hd,rfl⟩:=hc;exact(h2 i d y hd hy).di)
 | t h1 h2=>exact .t (by simpa using h1) (fun i c y hc hy=>by
   simp only[Qb1,Qf1]at hc;obtain⟨d,hd,rfl⟩:=hc;exact(h2 i d y hd hy).di)
theorem aip {e:TypeId}{x:Operand}{f:FV}(ho:f.cells.all FV.one=true)(hS:fQ σ β I Wr wd w st)(hx:aI σ β I w st.base.length f (ρ x)) :
  Yields P ⟨dst,.box e x,type,pos,after,guard⟩ ρ w (g_ mn σ β I Wr wd w st (st.push (.box f.cells)) (.r (.loc st.loc.length) 0)):=by
 obtain⟨h1,h2,_⟩:=hx.cells ho;obtain⟨g1,g2⟩:=hS.push (ρ x).cells e (.box f.cells) 0 0 (.inl ⟨_,rfl,rfl,h1,h2⟩);refine aB (x:=.pointer (some ⟨w.heap.size,0,none⟩)) (w':=w.alloc (.cells (ρ x).cells e)) ?_ ⟨_,_,g1,by rw[St.oG];exact g2,?_,nQ⟩
 ·simp[execOp,Instr.box,newVar,newRow]
 ·have:=aI.r (σ:=σ) (β:=β.put (st.base++st.loc).length 0 (w.heap.size,0,0)) (I:=I) (w:=w.alloc (.cells (ρ x).cells e)) (n:=st.base.length) (p:=.loc st.loc.length) (off:=0) (b:=w.heap.size) (bo:=0) (cap:=0)
   (by simp only[Ref.abs,Qb0];exact Map.dQ _ _ _ _)
  exact this
theorem AO {cx:Cx}(bA:∀ f g,cx.gid f=some g->σ g=some f){hint:Nat}{x:Value}{y:D}(h:zL cx hint x=some y):bE σ I w y x:=by
 unfold zL at h;split at h
 ·simp at h;subst h;exact .n _
 ·split at h
  ·rename_i f first captured hh
   split at h<;>simp at h;subst h;rename_i hg;have e1:first=#[]:=by simpa using hh.1
   have e2:captured=#[]:=by simpa using hh.2
   subst e1;subst e2;exact .fn (bA _ _ hg)
  ·simp at h
 ·simp at h
 ·simp at h
 ·simp at h
 ·simp at h;subst h;exact .v _
theorem Ou {cx:Cx}{hint:Nat}{x:Value}{y:D}(h:zL cx hint x=some y):y.one=true:=by
 unfold zL at h;split at h
 ·simp at h;subst h;rfl
 ·split at h
  ·split at h<;>simp at h;subst h;rfl
  ·simp at h
 ·simp at h
 ·simp at h
 ·simp at h
 ·rename_i h1 h2 h3 h4 h5;simp at h;subst h;cases x<;>first|rfl|exact absurd rfl (h4 _)|exact absurd rfl (h5 _)
theorem qY {cx:Cx}(bA:∀ f g,cx.gid f=some g->σ g=some f):∀ {hs:List Nat} {xs:List Value} {ys:List D},uQ cx hs xs=some ys ->
  ys.length=xs.length/\(∀ (i:Nat) (y:D) (x:Value),ys[i]?=some y->xs[i]?=some x->bE σ I w y x)/\∀ y ∈ ys,y.one=true
 | hs,[],ys,h=>by simp[uQ]at h;subst h;exact⟨rfl,fun i y x hy=>by simp at hy,fun y hy=>by simp at hy⟩
 | hs,x::r,ys,h=>by
  simp only[uQ]at h;split at h<;>simp at h;subst h;rename_i y s h1 h2;obtain⟨g1,g2,g3⟩:=qY bA h2;refine⟨by simp[g1],?_,?_⟩
  ·intro i a b ha hb;cases i with
   | zero=>simp at ha hb;subst ha;subst hb;exact AO bA h1
   | succ i=>exact g2 i a b (by simpa using ha) (by simpa using hb)
  ·intro a ha;simp only[Qi1]at ha;rcases ha with rfl|ha
   ·exact Ou h1
   ·exact g3 a ha
theorem gX {cx:Cx}(bA:∀ f g,cx.gid f=some g->σ g=some f){t:TypeId}{z:List D}(h:kg cx P t=some z) :
  ∃ i zv,P.info? t=some i/\i.zero=some zv/\z.length=zv.cells.size/\(∀ (j:Nat) (y:D) (x:Value),z[j]?=some y->zv.cells[j]?=some x->bE σ I w y x)/\∀ y ∈ z,y.one=true:=by
 unfold kg at h;split at h
 ·rename_i i hi;split at h
  ·rename_i zv hz;obtain⟨g1,g2,g3⟩:=qY (σ:=σ) (I:=I) (w:=w) bA h;exact⟨i,zv,hi,hz,by simpa using g1,fun j y x hy hx=>g2 j y x hy (by simpa using hx),g3⟩
  ·simp at h
 ·simp at h
theorem aiq {cx:Cx}(bA:∀ f g,cx.gid f=some g->σ g=some f){e:TypeId}{z:List D}(hz:kg cx P e=some z)(hS:fQ σ β I Wr wd w st) :
  Yields P ⟨dst,.alloc e,type,pos,after,guard⟩ ρ w (g_ mn σ β I Wr wd w st (st.push (.box (z.map .d))) (.r (.loc st.loc.length) 0)):=by
 obtain⟨i,zv,hi,hzv,hl,hrep,_⟩:=gX (σ:=σ) (I:=I) (w:=w) bA hz;obtain⟨g1,g2⟩:=hS.push zv.cells e (.box (z.map .d)) 0 0 (.inl ⟨_,rfl,rfl,by simp[hl],fun j f x hf hx=>by
  simp only[Qb1,Qf1]at hf;obtain⟨d,hd,rfl⟩:=hf;exact .d (hrep j d x hd hx)⟩)
 refine aB (x:=.pointer (some ⟨w.heap.size,0,none⟩)) (w':=w.alloc (.cells zv.cells e)) ?_ ⟨_,_,g1,by rw[St.oG];exact g2,?_,nQ⟩
 ·simp[execOp,Instr.alloc,zeroValue,typeInfo,hi,hzv,newVar,newRow]
 ·have:=aI.r (σ:=σ) (β:=β.put (st.base++st.loc).length 0 (w.heap.size,0,0)) (I:=I) (w:=w.alloc (.cells zv.cells e)) (n:=st.base.length) (p:=.loc st.loc.length) (off:=0) (b:=w.heap.size) (bo:=0) (cap:=0)
   (by simp only[Ref.abs,Qb0];exact Map.dQ _ _ _ _)
  exact this
end ops
end
section
variable {mn:Prop}
section lists
theorem bR {α:Type}(cs:List α)(off:Nat)(xs:List α)(hle:off+xs.length<=cs.length)(p:Nat) :
  (splice cs off xs)[p]?=if p<off then cs[p]? else if p<off+xs.length then xs[p-off]? else cs[p]?:=by
 unfold splice;have h1:(cs.take off).length=off:=by simp;omega
 by_cases hp:p<off
 ·rw[if_pos hp,Qa0 (by simp;omega),Qa0 (by rw[h1];exact hp),Qp0,if_pos hp]
 ·rw[if_neg hp]
  by_cases hp2:p<off+xs.length
  ·rw[if_pos hp2,Qa0 (by simp;omega),Qc0 (by rw[h1];omega),h1]
  ·rw[if_neg hp2,Qc0 (by simp;omega),Qx2]
   congr 1
   simp;omega
theorem length_splice {α:Type}(cs:List α)(off:Nat)(xs:List α)(hle:off+xs.length<=cs.length):(splice cs off xs).length=cs.length:=by
 unfold splice;simp;omega
theorem qZ {α:Type}{cs:List α}{off:Nat}{xs:List α}{y:α}(h:y ∈ splice cs off xs):y ∈ cs\/y ∈ xs:=by
 unfold splice at h;simp only[Qw0]at h;rcases h with (h|h)|h
 ·exact .inl (Qn1 h)
 ·exact .inr h
 ·exact .inl (Q32 h)
end lists
section heap
variable {P:Program} {w:World}
theorem setRow_size (w:World)(g:Nat)(cs:Array Value):(w.setRow g cs).heap.size=w.heap.size:=by simp[World.setRow]
theorem setRow_other (w:World)(g:Nat)(cs:Array Value){b:Nat}(h:b≠g):(w.setRow g cs).heap[b]?=w.heap[b]?:=by
 simp only[World.setRow,Xa0];rw[if_neg ae]
theorem yj {t:TypeId}{m:Nat}(hm:aZ P t=some m){b o:Nat}{cur:Array Value}{e:TypeId}(hb:w.heap[b]?=some (.cells cur e (0,0))){x:Value}(hx:x.cells.size=m)
  (hle:o+m<=cur.size) (h1:∀ y ∈ x.cells.toList,y.oneCell'=true) :
  (storeVar t ⟨b,o,none⟩ x).run P w=.ok () (w.setRow b (splice cur.toList o x.cells.toList).toArray):=by
 have h:=run_storeCells_at P b o e x.cells.toList 0 cur w hb (by simp;omega) h1;simp only[Q52]at h;simp only[storeVar,Sem.run_bind,run_sizeOf hm,Result.andThen_ok,hx,ne_eq,not_true,if_false];exact h
end heap
section ops
variable {P:Program} {σ:Nat->Option FuncId} {β:Map} {I Wr:Nat->Prop} {wd:Nat->Prop} {w:World} {st:St} {ρ:Operand->Value}
variable {dst:Option Tmp} {type:TypeId} {pos:String} {after:Array Edge} {guard:Option (Nat × Bool)}
theorem ky {n:Nat}{H:List ah}(h:bf σ n β I Wr wd H w){k:Nat}{o:ah}{b bo cap:Nat}(hl:o.live β k=some (b,bo,cap)):b<w.heap.size:=by
 cases o with
 | box cs=>exact h.blt _ _ _ _ _ hl
 | row av sz es=>exact h.blt _ _ _ _ _ hl
 | h_ av sz es=>cases hl
 | map es=>exact h.blt _ _ _ _ _ hl
theorem l5 {n:Nat}:aI σ β I w n (.d (.t [])) undef:=.d (.t rfl (fun i c x hc=>by simp at hc))
theorem SA {t:TypeId}{x y:Operand}{q:Ref}{off m:Nat}{cs:List FV}{f:FV}(hm:aZ P t=some m)(hq:st.heap q=some (.box cs))(hl:f.cells.length=m)(hle:off+m<=cs.length)
  (ho:f.cells.all FV.one=true) (hd:jm st.base.length (st.bq q (.box (splice cs off f.cells))) wd) (hS:fQ σ β I Wr wd w st) (hx:aI σ β I w st.base.length (.r q off) (ρ x)) (hy:aI σ β I w st.base.length f (ρ y)) :
  Yields P ⟨dst,.store t x y,type,pos,after,guard⟩ ρ w (g_ mn σ β I Wr wd w st (st.bq q (.box (splice cs off f.cells))) (.d (.t []))):=by
 generalize hρ:ρ x=xv at hx;cases hx with
 | r hb =>
  rename_i b bo cap;rw[St.fP]at hq;obtain⟨rfl,c,e,h1,h2,h3⟩:=hS.box _ _ _ _ _ hq hb;obtain⟨g1,g2,g3⟩:=hy.cells ho;have hrun:=yj (P:=P) hm h1 (x:=ρ y) (o:=off) ae ae g3;rw[Qz2]at hρ;have hb':=setRow_heap w b c (splice c.toList off (ρ y).cells.toList).toArray e (0,0) h1;have hkeep:∀ z,I z->(w.setRow b (splice c.toList off (ρ y).cells.toList).toArray).heap[z]?=w.heap[z]?:=fun z hz=>setRow_other _ _ _ (fun he=>(hS.wr _ _ b 0 cap hq hb).2 (he ▸ hz))
  have ha1:(splice c.toList off (ρ y).cells.toList).toArray.size=(splice cs off f.cells).length:=by
   rw[Xy0,length_splice _ _ _ (by simp;omega),length_splice _ _ _ ae];simpa using h2
  have ha2:∀ (j:Nat) (f':FV) (z:Value),(splice cs off f.cells)[j]?=some f'->(splice c.toList off (ρ y).cells.toList).toArray[j]?=some z ->
    aI σ β I (w.setRow b (splice c.toList off (ρ y).cells.toList).toArray) st.base.length f' z:=by
   intro j f' z hf' hz;rw[bR _ _ _ ae]at hf';rw[Xf0,bR _ _ _ (by simp;omega)]at hz;have hlen:(ρ y).cells.toList.length=f.cells.length:=by simpa using g1
   rw[hlen]at hz
   by_cases h5:j<off
   ·rw[if_pos h5]at hf' hz;exact(h3 j f' z hf' (by simpa using hz)).mono (fun _ _ _ e=>e) (fun _ e=>e) hkeep
   ·rw[if_neg h5]at hf' hz
    by_cases h6:j<off+f.cells.length
    ·rw[if_pos h6]at hf' hz;exact(g2 _ f' z hf' (by simpa using hz)).mono (fun _ _ _ e=>e) (fun _ e=>e) hkeep
    ·rw[if_neg h6]at hf' hz;exact(h3 j f' z hf' (by simpa using hz)).mono (fun _ _ _ e=>e) (fun _ e=>e) hkeep
  obtain⟨k1,k2⟩:=hS.upd (hkw:=St.bK _ _ _ hd) (w':=w.setRow b (splice c.toList off (ρ y).cells.toList).toArray) hq (show(ah.box cs).live β _=some (b,0,cap) from hb) (.box (splice cs off f.cells)) 0 b 0 cap
   (by rw[setRow_size];exact Qd2 _) (fun z _ hz=>setRow_other _ _ _ hz) (.inl rfl) (by rw[setRow_size];exact hS.blt _ _ _ _ _ hb) (fun z hz=>by rw[hb]at hz;cases hz;rfl)
   rfl rfl rfl (fun _=>Qd2 _) (.inl ⟨_,_,e,rfl,rfl,rfl,hb',ha1,ha2⟩)
  refine tV (w':=w.setRow b (splice c.toList off (ρ y).cells.toList).toArray) ?_ ⟨_,I,k1,by rw[St.dJ];exact k2,l5,kX (St.bK _ _ _ hd)⟩;simp[execOp,hρ,Instr.storeAt,Instr.sureAddr,hrun]
theorem Es {i i' j j' sz:Nat}(h:i'≠i)(hj:j<sz)(hj':j'<sz):i'*sz+j'≠i*sz+j:=by
 intro he;have h1:(i'*sz+j') / sz=i':=by
  rw[Qk2,Xl2 ae,Xa1 hj',Q52]
 have h2:(i*sz+j) / sz=i:=by
  rw[Qk2,Xl2 ae,Xa1 hj,Q52]
 rw[he,h2]at h1;exact h h1.symm
theorem D.Lm {v:D}(h:v.norm.one=true):v.norm.cells=[v.norm]:=D.uS h
theorem bE.cells {v:D}{x:Value}(h:bE σ I w v x)(ho:v.cells.all D.one=true) :
  x.cells.size=v.cells.length/\(∀ (i:Nat) (c:D) (y:Value),v.cells[i]?=some c->x.cells[i]?=some y->bE σ I w c y)/\∀ y ∈ x.cells.toList,y.oneCell'=true:=by
 have h':aI σ (fun _ _=>none) I w 0 (.d v) x:=.d h;have hc:(FV.d v).cells=v.cells.map .d:=by cases v<;>rfl
 obtain⟨a1,a2,a3⟩:=h'.cells (by rw[hc,List.all_map];exact ho);refine⟨by rw[a1,hc,Qj1],fun i c y h1 h2 => ?_,a3⟩;have:=a2 i (.d c) y (by rw[hc];simp[h1]) h2;cases this with|d h=>exact h
theorem GG {t:TypeId}{x y:Operand}{q:Ref}{av sz i off m:Nat}{es:List D}{e0 v e1:D}(hm:aZ P t=some m)(hq:st.heap q=some (.row av sz es))(he:es[i]?=some e0)
  (hl:v.norm.cells.length=m) (ho:v.norm.cells.all D.one=true) (hle:off+m<=e0.cells.length) (he1:e1.cells=splice e0.cells off v.norm.cells)
  (hd:jm st.base.length (st.bq q (.row av sz (es.set i e1))) wd) (hS:fQ σ β I Wr wd w st) (hx:aI σ β I w st.base.length (.e q av sz i off) (ρ x)) (hy:aI σ β I w st.base.length (.d v) (ρ y)) :
  Yields P ⟨dst,.store t x y,type,pos,after,guard⟩ ρ w (g_ mn σ β I Wr wd w st (st.bq q (.row av sz (es.set i e1))) (.d (.t []))):=by
 generalize hρ:ρ x=xv at hx;have hy':bE σ I w v (ρ y):=by cases hy with|d h=>exact h
 cases hx with
 | e hb =>
  rename_i b bo cap;rw[St.fP]at hq;obtain⟨hat,c,e,h1,h2⟩:=hS.row _ _ _ _ _ _ _ hq hb;obtain⟨g1,g2,g3⟩:=(hy'.norm).cells ho;have hi:i<es.length:=(aT he)
  have hwide:e0.cells.length=sz:=hat.wide _ (Qa2 he);have hin:bo+i*sz+sz<=c.size:=by
   have:(i+1)*sz<=cap*sz:=Qf0 _ (by have:=hat.fit;omega);rw[Qq1]at this;omega
  have hrun:=yj (P:=P) hm h1 (x:=ρ y) (o:=bo+i*sz+off) ae ae g3;have hb':=setRow_heap w b c (splice c.toList (bo+i*sz+off) (ρ y).cells.toList).toArray e (0,0) h1;have hlen:(ρ y).cells.toList.length=v.norm.cells.length:=by simpa using g1
  have hkeep:∀ z,I z->(w.setRow b (splice c.toList (bo+i*sz+off) (ρ y).cells.toList).toArray).heap[z]?=w.heap[z]?:=fun z hz=>setRow_other _ _ _ (fun he=>(hS.wr _ _ b bo cap hq hb).2 (he ▸ hz))
  have hcell:∀ k,(w.setRow b (splice c.toList (bo+i*sz+off) (ρ y).cells.toList).toArray).cell? ⟨b,k,none⟩ =
    if k<bo+i*sz+off then c[k]? else if k<bo+i*sz+off+v.norm.cells.length then(ρ y).cells[k-(bo+i*sz+off)]? else c[k]?:=by
   intro k;simp only[World.cell?,hb',Xm2,Qh1,if_false];rw[Xf0,bR _ _ _ (by simp;omega),hlen];simp
  have hrow':∀ k c' x',w.cell? ⟨b,k,none⟩=some x'->c[k]?=some c'->x'=c':=by
   intro k c' x' hk hc;simp only[World.cell?,h1,Xm2,Qh1,if_false]at hk;rw[hk]at hc;cases hc;rfl
  have tY:∀ k,w.cell? ⟨b,k,none⟩=c[k]?:=fun k=>by simp[World.cell?,h1]
  have ha1:(splice c.toList (bo+i*sz+off) (ρ y).cells.toList).toArray.size=bo+cap*sz:=by
   rw[Xy0,length_splice _ _ _ (by simp;omega)];simpa using h2
  have ha2:jk σ I (w.setRow b (splice c.toList (bo+i*sz+off) (ρ y).cells.toList).toArray) b bo cap sz (es.set i e1):=by
   have hmem:∀ e' ∈ es.set i e1,e' ∈ es\/e'=e1:=fun e' he'=>by
    rcases Q41 he' with h|h
    ·exact .inl h
    ·exact .inr h
   refine⟨hat.pos,by rw[Xg0];exact hat.fit,?_,?_,?_⟩
   ·intro e' he';rcases hmem e' he' with h|rfl
    ·exact hat.wide _ h
    ·rw[he1,length_splice _ _ _ ae,hwide]
   ·intro e' he' c' hc';rcases hmem e' he' with h|rfl
    ·exact hat.one _ h _ hc'
    ·rw[he1]at hc';rcases qZ hc' with h|h
     ·exact hat.one _ (Qa2 he) _ h
     ·exact Qh2.1 ho _ h
   ·intro i' e' he' j d hd
    by_cases hii:i'=i
    ·subst hii;rw[Qd1 hi]at he';cases he';rw[he1,bR _ _ _ ae]at hd;rw[hcell]
     by_cases h5:j<off
     ·rw[if_pos h5]at hd;rw[if_pos ae];obtain⟨z,hz1,hz2⟩:=hat.at_ i' e0 he j d hd;exact⟨z,by rw[<-tY];exact hz1,hz2.mono (fun _ e=>e) hkeep⟩
     ·rw[if_neg h5]at hd;rw[if_neg ae]
      by_cases h6:j<off+v.norm.cells.length
      ·rw[if_pos h6]at hd;rw[if_pos ae];have hlt:j-off<(ρ y).cells.size:=by rw[g1];omega
       have e2:bo+i'*sz+j-(bo+i'*sz+off)=j-off:=ae;rw[e2];have hz:(ρ y).cells[j-off]?=some ((ρ y).cells[j-off]):=by simp[hlt]
       exact⟨_,hz,(g2 _ d _ hd hz).mono (fun _ e=>e) hkeep⟩
      ·rw[if_neg h6]at hd;rw[if_neg ae];obtain⟨z,hz1,hz2⟩:=hat.at_ i' e0 he j d hd;exact⟨z,by rw[<-tY];exact hz1,hz2.mono (fun _ e=>e) hkeep⟩
    ·rw[Qb2 (Ne.symm hii)]at he';obtain⟨z,hz1,hz2⟩:=hat.at_ i' e' he' j d hd;refine⟨z,?_,hz2.mono (fun _ e=>e) hkeep⟩;have hj:j<sz:=by
      have:=(aT hd)
      rw[hat.wide _ (Qa2 he')]at this;exact this
     rw[hcell,<-tY,hz1]
     by_cases h5:bo+i'*sz+j<bo+i*sz+off
     ·rw[if_pos h5]
     ·rw[if_neg h5,if_neg];intro h6;have:i'*sz+j=i*sz+(i'*sz+j-i*sz):=ae;exact Es hii (by omega:i'*sz+j-i*sz<sz) hj this
  obtain⟨k1,k2⟩:=hS.upd (hkw:=St.bK _ _ _ hd) (w':=w.setRow b (splice c.toList (bo+i*sz+off) (ρ y).cells.toList).toArray) hq (show(ah.row av sz es).live β _=some (b,bo,cap) from hb) (.row av sz (es.set i e1)) av b bo cap
   (by rw[setRow_size];exact Qd2 _) (fun z _ hz=>setRow_other _ _ _ hz) (.inl rfl) (by rw[setRow_size];exact hS.blt _ _ _ _ _ hb) (fun z hz=>by rw[hb]at hz;cases hz;rfl)
   rfl rfl rfl (fun _=>Qd2 _) (.inr (.inl ⟨sz,_,_,e,rfl,fun v' z hz=>hS.mO _ _ _ _ _ _ hq hz,hb',ha1,ha2⟩))
  refine tV (w':=w.setRow b (splice c.toList (bo+i*sz+off) (ρ y).cells.toList).toArray) ?_ ⟨_,I,k1,by rw[St.dJ];exact k2,l5,kX (St.bK _ _ _ hd)⟩;simp[execOp,hρ,Instr.storeAt,Instr.sureAddr,hrun]
end ops
end
section
section sem
variable {P:Program} {w:World}
theorem iW (size n:Nat)(b:Addr)(len cap:Nat)(cs:List Value)(hl:cs.length=n*size)(h:∀ (j:Nat) (v:Value),cs[j]?=some v->w.cell? (b.add j)=some v) :
  (Builtin.firstCells size n (.slice (some b) len cap)).run P w=.ok cs.toArray w:=run_firstCells_some w size n b len cap cs hl h
theorem Bc {t u ty e e':TypeId}{i:TypeInfo}(ht:P.underlying t=some (.slice e))(hu:P.underlying u=some (.slice e'))(hi:P.info? e=some i)
  {g o sLen sCap m:Nat} {cur:Array Value} {t':TypeId} (hg:w.heap[g]?=some (.cells cur t' (0,0))) {x:Value} {news:List Value} (hlen:(Builtin.lenOf x).run P w=.ok m w)
  (hf:(Builtin.firstCells i.size m x).run P w=.ok news.toArray w) (h1:∀ v ∈ news,v.oneCell'=true) (hroom:sLen+m<=sCap) (hfit:o+sLen*i.size+news.length<=cur.size) :
  (Builtin.append_ #[t,u] ty #[.slice (some ⟨g,o,none⟩) sLen sCap,x]).run P w =
   .ok (.slice (some ⟨g,o,none⟩) (sLen+m) sCap) (w.setRow g (splice cur.toList (o+sLen*i.size) news).toArray):=by
 have hst:=run_storeCells_at P g (o+sLen*i.size) t' news 0 cur w hg (by simpa using hfit) h1;simp only[Q52]at hst;have hst':(storeCells ⟨g,o+sLen*i.size,none⟩ news).run P w=.ok () (w.setRow g (splice cur.toList (o+sLen*i.size) news).toArray):=hst;simp[Builtin.append_,run_underlying ht,run_underlying hu,Go.sizeOf,typeInfo,hi,hlen,hroom,hf,ku,hst']
theorem run_append_nothing {t u ty e e':TypeId}{i:TypeInfo}(ht:P.underlying t=some (.slice e))(hu:P.underlying u=some (.slice e'))(hi:P.info? e=some i)
  {x:Value} (hlen:(Builtin.lenOf x).run P w=.ok 0 w) (hf:(Builtin.firstCells i.size 0 x).run P w=.ok #[] w) :
  (Builtin.append_ #[t,u] ty #[.slice none 0 0,x]).run P w=.ok (.slice none 0 0) w:=by
 simp[Builtin.append_,run_underlying ht,run_underlying hu,Go.sizeOf,typeInfo,hi,hlen,hf]
theorem qh {t u ty e e':TypeId}{i:TypeInfo}{z:Value}(ht:P.underlying t=some (.slice e))(hu:P.underlying u=some (.slice e'))(hi:P.info? e=some i)(hz:i.zero=some z)
  {base:Option Addr} {sLen sCap m:Nat} {x:Value} {olds news:List Value} (hlen:(Builtin.lenOf x).run P w=.ok m w)
  (hfo:(Builtin.firstCells i.size sLen (.slice base sLen sCap)).run P w.drew=.ok olds.toArray w.drew) (hf:(Builtin.firstCells i.size m x).run P w.drew=.ok news.toArray w.drew)
  (hg:sCap<sLen+m) (h63:((sLen+m:Nat):Int)<=9223372036854775807) (hfit:Builtin.nextslicecap (sLen+m) sCap*i.bytes<=281474976710656) :
  (Builtin.append_ #[t,u] ty #[.slice base sLen sCap,x]).run P w =
   .ok (.slice (some ⟨w.heap.size,0,none⟩) (sLen+m) (grownCap w (sLen+m) sCap e))
    (w.drew.alloc (.cells (olds++news++(Builtin.zeroCells z.cells (grownCap w (sLen+m) sCap e-(sLen+m))).toList).toArray e)):=by
 have hn:¬ (sLen+m<=sCap):=ae;have h63':¬ (9223372036854775807<((sLen:Int)+(m:Int))):=ae;have h48':¬ (281474976710656<Builtin.nextslicecap (sLen+m) sCap*i.bytes):=ae;simp[Builtin.append_,run_underlying ht,run_underlying hu,Go.sizeOf,typeInfo,zeroValue,hi,hz,hlen,hn,h63',h48',Question.forced,hf,hfo,newRow,grownCap]
 congr 2
 apply Q40;simp
end sem
structure gK (σ:Nat->Option FuncId)(I:Nat->Prop)(w:World)(sz:Nat)(ys:List D)(news:List Value):Prop where
 len:news.length=ys.length*sz
 wide:∀ e ∈ ys,e.cells.length=sz
 one:∀ e ∈ ys,∀ c ∈ e.cells,c.one=true
 cell1:∀ v ∈ news,v.oneCell'=true
 rep:∀ (i:Nat) (e:D) (j:Nat) (d:D),ys[i]?=some e->e.cells[j]?=some d->∃ x,news[i*sz+j]?=some x/\bE σ I w d x
theorem gK.nil (σ:Nat->Option FuncId)(I:Nat->Prop)(w:World)(sz:Nat):gK σ I w sz [] [] :=
 ⟨aC,aC,aC,aC,fun i e j d h=>by simp at h⟩
section elems
variable {σ:Nat->Option FuncId} {β:Map} {I Wr:Nat->Prop} {wd:Nat->Prop} {w:World}
theorem gK.append {sz:Nat}{xs ys:List D}{vs us:List Value}(h:gK σ I w sz xs vs)(k:gK σ I w sz ys us):gK σ I w sz (xs++ys) (vs++us):=by
 refine⟨by simp[h.len,k.len,Qq1],?_,?_,?_,?_⟩
 ·intro e he;rcases Qw0.1 he with he|he
  ·exact h.wide e he
  ·exact k.wide e he
 ·intro e he;rcases Qw0.1 he with he|he
  ·exact h.one e he
  ·exact k.one e he
 ·intro e he;rcases Qw0.1 he with he|he
  ·exact h.cell1 e he
  ·exact k.cell1 e he
 ·intro i e j d he hd
  by_cases hi:i<xs.length
  ·rw[Qa0 hi]at he;obtain⟨x,h1,h2⟩:=h.rep i e j d he hd;have hlt:=(aT h1)
   exact⟨x,by rw[Qa0 hlt];exact h1,h2⟩
  ·rw[Qc0 ae]at he;obtain⟨x,h1,h2⟩:=k.rep _ e j d he hd;refine⟨x,?_,h2⟩;have hge:xs.length*sz<=i*sz:=Qf0 _ ae;rw[Qc0 (by rw[h.len];omega),h.len,<-h1]
   congr 1
   rw[Xz0];omega
theorem Ym {sz b o:Nat}{es:List D}(hsz:0<sz)(hwide:∀ e ∈ es,e.cells.length=sz)(hone:∀ e ∈ es,∀ c ∈ e.cells,c.one=true)
  (hat:∀ (i:Nat) (e:D),es[i]?=some e->AtD σ I w b (o+i*sz) e.cells) :
  ∃ news,gK σ I w sz es news/\∀ (j:Nat) (v:Value),news[j]?=some v->w.cell? ⟨b,o+j,none⟩=some v:=by
 induction es generalizing o with
 | nil=>exact⟨[],gK.nil σ I w sz,fun j v h=>by simp at h⟩
 | cons e es ih =>
  obtain⟨xs,g1,g2,g3⟩:=(hat 0 e aC).values;simp only[Nat.zero_mul,Q52]at g2;obtain⟨us,k1,k2⟩:=ih (o:=o+sz) (fun e' he'=>hwide e' (by simp[he'])) (fun e' he'=>hone e' (by simp[he'])) (fun i e' he'=>by
   have:=hat (i+1) e' (by simpa using he');rw[Qq1,Nat.one_mul]at this;rw[show o+sz+i*sz=o+(i*sz+sz) by omega];exact this)
  have hw:=hwide e aC;have h1:gK σ I w sz [e] xs:=by
   refine⟨by simp only[g1,hw,Xi2,Nat.one_mul],by simp[hw],fun e' he'=>by simp at he';subst he';exact hone e' aC,?_,?_⟩
   ·intro v hv;obtain⟨j,hj,rfl⟩:=X40.1 hv;have hc:e.cells[j]?=some (e.cells[j]'(by omega)):=Qa1 _;exact(g3 j _ _ hc aC).oneCell (hone e aC _ (Qi0 _))
   ·intro i e' j d he' hd;cases i with
    | zero =>
     simp at he';subst he';have hj:=(aT hd)
     have hx:xs[j]?=some (xs[j]'(by omega)):=aC;exact⟨_,by rw[Nat.zero_mul,Qz2];exact hx,g3 j d _ hd hx⟩
    | succ i=>simp at he'
  refine⟨xs++us,h1.append k1,fun j v hv => ?_⟩
  by_cases hj:j<xs.length
  ·rw[Qa0 hj]at hv;exact g2 j v hv
  ·rw[Qc0 ae]at hv;have:=k2 _ v hv;rw[show o+j=o+sz+(j-xs.length) by omega];exact this
theorem gK.mono {sz:Nat}{ys:List D}{news:List Value}(h:gK σ I w sz ys news){I':Nat->Prop}{w':World}(hi:∀ b,I b->I' b)(hk:∀ b,I b->w'.heap[b]?=w.heap[b]?):gK σ I' w' sz ys news :=
 ⟨h.len,h.wide,h.one,h.cell1,fun i e j d a b=>by obtain⟨x,h1,h2⟩:=h.rep i e j d a b;exact⟨x,h1,h2.mono hi hk⟩⟩
theorem wJ {P:Program}{st:St}{sz:Nat}{f:FV}{ys:List D}{v:Value}(hsz:0<sz)(hS:fQ σ β I Wr wd w st)(hf:aI σ β I w st.base.length f v)(h:elems st sz f=some ys) :
  ∃ news,gK σ I w sz ys news/\∃ a c,v=.slice a ys.length c/\ys.length<=c /\
   ∀ w':World,(∀ b,b<w.heap.size->w'.heap[b]?=w.heap[b]?)->(Builtin.firstCells sz ys.length v).run P w'=.ok news.toArray w':=by
 have fin:∀ (b o cap:Nat) (es:List D),es.length<=cap->b<w.heap.size->(∀ e ∈ es,e.cells.length=sz)->(∀ e ∈ es,∀ c ∈ e.cells,c.one=true) ->
   (∀ (i:Nat) (e:D),es[i]?=some e->AtD σ I w b (o+i*sz) e.cells)->v=.slice (some ⟨b,o,none⟩) es.length cap->ys=es ->
   ∃ news,gK σ I w sz ys news/\∃ a c,v=.slice a ys.length c/\ys.length<=c /\
   ∀ w':World,(∀ b,b<w.heap.size->w'.heap[b]?=w.heap[b]?)->(Builtin.firstCells sz ys.length v).run P w'=.ok news.toArray w':=by
  intro b o cap es hcap hb h1 h2 h3 hv hys;subst hys;obtain⟨news,k1,k2⟩:=Ym hsz h1 h2 h3;refine⟨news,k1,_,_,hv,hcap,fun w' hw' => ?_⟩;rw[hv];exact iW sz ys.length _ _ _ news k1.len (fun j u hu=>by rw[ku,cell_of_block (hw' b hb)];exact k2 j u hu)
 have air:∀ (ys':List D),v=.slice none 0 0->ys=[]->∃ news,gK σ I w sz ys news/\∃ a c,v=.slice a ys.length c/\ys.length<=c /\
   ∀ w':World,(∀ b,b<w.heap.size->w'.heap[b]?=w.heap[b]?)->(Builtin.firstCells sz ys.length v).run P w'=.ok news.toArray w':=by
  intro _ hv hys;subst hys;exact⟨[],gK.nil σ I w sz,none,0,hv,Qd2 _,fun w' _=>by rw[hv];rfl⟩
 unfold elems at h;split at h
 ·split at h<;>simp at h;subst h;cases hf with
  | d hf=>cases hf;exact air [] rfl rfl
 ·split at h<;>simp at h;subst h;rename_i hs';subst hs';cases hf with
  | d hf =>
   cases hf with
   | s0=>exact air [] rfl rfl
   | s1 _ a cap =>
    refine⟨[],gK.nil σ I w _,some a,cap,rfl,Qr1 _,fun w' _ => ?_⟩;exact iW _ 0 _ _ _ [] aC (fun j u hu=>by simp at hu)
   | s u hb hc hs1 hone hcell hrep =>
    exact fin _ _ _ _ hc (hS.mf _ hb) hs1 hone (fun i e he j c hj=>⟨u i j,hcell i e j c he hj,hrep i e j c he hj⟩) rfl rfl
 ·split at h<;>simp at h;subst h;cases hf with
  | @z _ cap a =>
   refine⟨[],gK.nil σ I w _,some a,cap,rfl,Qr1 _,fun w' _ => ?_⟩;exact iW _ 0 _ _ _ [] aC (fun j u hu=>by simp at hu)
 ·rename_i q av fE off m;split at h
  ·rename_i hs';subst hs';split at h
   ·rename_i o ho;rw[St.fP]at ho;cases hf with
    | ls hb hl Jg =>
     rename_i b bo cap o';unfold ah.view at h;have main:∀ (es:List D),jk σ I w b bo cap sz es->off+m<=es.length->ys=(es.drop off).take m ->
       ∃ news,gK σ I w sz ys news/\∃ a c,Value.slice (some ⟨b,o',none⟩) m (cap-off)=.slice a ys.length c/\ys.length<=c /\
       ∀ w':World,(∀ b,b<w.heap.size->w'.heap[b]?=w.heap[b]?)->(Builtin.firstCells sz ys.length (.slice (some ⟨b,o',none⟩) m (cap-off))).run P w'=.ok news.toArray w':=by
      intro es hat hle hys;have hlen:ys.length=m:=by rw[hys];simp;omega
      have hfit:=hat.fit;refine fin b o' (cap-off) ys ae (hS.blt _ _ _ _ _ hb) ?_ ?_ ?_ (by rw[hlen]) rfl
      ·intro e he;rw[hys]at he;exact hat.wide e (Q32 (Qn1 he))
      ·intro e he;rw[hys]at he;exact hat.one e (Q32 (Qn1 he))
      ·intro i e he;have hi:i<m:=by rw[<-hlen];exact(aT he)
       rw[hys,Qp0,if_pos hi,Qx2]at he;have:=hat.at_ _ e he;rw[Jg ae];rw[show bo+off*sz+i*sz=bo+(off+i)*sz by rw[Qq1];omega];exact this
     split at h
     ·split at h<;>simp at h;rename_i hh;obtain⟨rfl,rfl,hle⟩:=hh;exact main _ (hS.row _ _ _ _ _ _ _ ho hb).1 hle h.symm
     ·split at h<;>simp at h;rename_i hh;obtain⟨rfl,rfl,hle⟩:=hh;exact main _ (hS.h_ _ _ _ _ _ _ _ ho hb).1 hle h.symm
     ·simp at h
   ·simp at h
  ·simp at h
 ·simp at h
end elems
end
section
variable {mn:Prop}
section app
variable {P:Program} {σ:Nat->Option FuncId} {β:Map} {I Wr:Nat->Prop} {wd:Nat->Prop} {w:World} {st:St} {ρ:Operand->Value}
variable {dst:Option Tmp} {type:TypeId} {pos:String} {after:Array Edge} {guard:Option (Nat × Bool)}
theorem jM {t u:TypeId}{x y:Operand}:execOp ρ ⟨dst,.call {callee:=.builtin .append,args:=#[x,y],argTypes:=#[t,u]},type,pos,after,guard⟩=(do pure (.value (<- Builtin.append_ #[t,u] type #[ρ x,ρ y]))):=by
 simp[execOp,resolve,invoke,builtin]
theorem oD {n sz:Nat}{v:Value}(h:aI σ β I w n (.d (.n sz)) v):v=.slice none 0 0:=by
 cases h with|d h=>cases h;rfl
theorem bf.newRow {n:Nat}{H:List ah}(h:bf σ n β I Wr wd H w){sz cap:Nat}{ys:List D}{news rest:List Value}(hsz:0<sz)(he:gK σ I w sz ys news)(hcap:ys.length<=cap)(hr:rest.length=(cap-ys.length)*sz)(e:TypeId)(av:Nat) :
  Ext mn β (β.put H.length av (w.heap.size,0,cap)) I I Wr w (w.alloc (.cells (news++rest).toArray e)) /\
   bf σ n (β.put H.length av (w.heap.size,0,cap)) I Wr wd (H++[.row av sz ys]) (w.alloc (.cells (news++rest).toArray e)):=by
 refine h.push (news++rest).toArray e (.row av sz ys) av cap (.inr ⟨sz,ys,rfl,hsz,hcap,he.wide,he.one,?_,?_⟩)
 ·simp[he.len,hr,Xz0];have:ys.length*sz<=cap*sz:=Qf0 _ hcap;omega
 ·intro i e' j d hi hd;obtain⟨x,h1,h2⟩:=he.rep i e' j d hi hd;have hlt:=(aT h1)
  exact⟨x,by rw[Xf0,Qa0 hlt];exact h1,h2⟩
theorem drew_grow {n:Nat}{H:List ah}(h:bf σ n β I Wr wd H w):bf σ n β I Wr wd H w.drew:=h.grow (Qd2 _) (fun _ _=>rfl)
theorem ym (β:Map)(I Wr:Nat->Prop)(w:World):Ext mn β β I I Wr w w.drew:=⟨fun _ _ _ h=>h,fun _ h=>h,fun _ h=>.inl h,Qd2 _,fun _ _=>rfl,fun _ _ _=>rfl,rfl,rfl,rfl,fun _=>Nat.le_succ _⟩
theorem GH {a b:Nat}(h:a*b<=most):a*b<=140737488355328:=by unfold most at h;omega
theorem SB {t u e e':TypeId}{x y:Operand}{sz bytes:Nat}{f:FV}{ys:List D}{z:List D}{cx:Cx}(bA:∀ f g,cx.gid f=some g->σ g=some f)(ht:P.underlying t=some (.slice e))(hu:P.underlying u=some (.slice e'))
  (hm:aZ P e=some sz) (hby:nP P e=some bytes) (hz:kg cx P e=some z) (hzl:z.length=sz) (hsz:0<sz) (hel:elems st sz f=some ys) (hb:ys.length*bytes<=most) (hmax:ys.length<=most)
  (hS:fQ σ β I Wr wd w st) (hx:aI σ β I w st.base.length (.d (.n sz)) (ρ x)) (hy:aI σ β I w st.base.length f (ρ y)) :
  Yields P ⟨dst,.call {callee:=.builtin .append,args:=#[x,y],argTypes:=#[t,u]},type,pos,after,guard⟩ ρ w
   (if ys.isEmpty then g_ mn σ β I Wr wd w st st (.d (.n sz)) else g_ mn σ β I Wr wd w st (st.push (.row 0 sz ys)) (.ls (.loc st.loc.length) 0 sz 0 ys.length)):=by
 obtain⟨i,zv,hi,hzv,kI,_,_⟩:=gX (σ:=σ) (I:=I) (w:=w) bA hz;have his:i.size=sz:=by unfold aZ at hm;rw[hi]at hm;simpa using hm
 have hib:i.bytes=bytes:=by unfold nP at hby;rw[hi]at hby;simpa using hby
 have SC:ρ x=.slice none 0 0:=oD hx;obtain⟨news,hE,a,c,hv,hc,hfc⟩:=wJ (P:=P) hsz hS hy hel
 by_cases hemp:ys=[]
 ·subst hemp;have hnews:news=[]:=by have:=hE.len;simpa using this
  subst hnews;simp only[List.isEmpty_nil,if_true];refine aB (x:=.slice none 0 0) (w':=w) ?_ (Post.same hS (.d (.n sz)));rw[jM,SC];have:=run_append_nothing (P:=P) (w:=w) (ty:=type) ht hu hi (x:=ρ y) (by rw[hv];rfl) (by rw[his];exact hfc w (fun _ _=>rfl));simp[this]
 ·have hne:ys.isEmpty=false:=by cases ys<;>simp_all
  rw[hne];have h0:0<ys.length:=by cases ys<;>simp_all
  have hfit:Builtin.nextslicecap (0+ys.length) 0*i.bytes<=281474976710656:=by
   rw[Qz2,nextslicecap_zero h0,hib];have:=GH hb;omega
  have hrun:=qh (P:=P) (w:=w) (ty:=type) ht hu hi hzv (base:=none) (sLen:=0) (sCap:=0) (m:=ys.length) (x:=ρ y) (olds:=[]) (news:=news) (by rw[hv];rfl) (by simp[Builtin.firstCells])
   (by rw[his];exact hfc w.drew (fun _ _=>rfl)) ae (by unfold most at hmax;omega) hfit
  have hcap:=grownCap_ge w (0+ys.length) 0 e;obtain⟨k1,k2⟩:=(drew_grow hS).newRow (cap:=grownCap w (0+ys.length) 0 e) (news:=[]++news) (rest:=(Builtin.zeroCells zv.cells (grownCap w (0+ys.length) 0 e-(0+ys.length))).toList) hsz
   (by simpa using hE.mono (w':=w.drew) (fun _ h=>h) (fun _ _=>rfl)) ae (by simp[size_zeroCells,<-kI,hzl]) e 0
  refine aB (x:=.slice (some ⟨w.heap.size,0,none⟩) (0+ys.length) (grownCap w (0+ys.length) 0 e)) (w':=_) ?_ ⟨_,I,(ym β I Wr w).trans k1,by rw[St.oG];exact k2,?_,nQ⟩
  ·rw[jM,SC];simp only[Sem.run_bind,hrun,Result.andThen_ok];rfl
  ·have:=aI.ls (σ:=σ) (β:=β.put (st.base++st.loc).length 0 (w.drew.heap.size,0,grownCap w (0+ys.length) 0 e)) (I:=I) (w:=w.drew.alloc (.cells ([]++news++(Builtin.zeroCells zv.cells (grownCap w (0+ys.length) 0 e-(0+ys.length))).toList).toArray e)) (n:=st.base.length)
    (p:=.loc st.loc.length) (av:=0) (sz:=sz) (off:=0) (len:=0+ys.length) (b:=w.heap.size) (bo:=0) (cap:=grownCap w (0+ys.length) 0 e) (o:=0) (by simp only[Ref.abs,Qb0];exact Map.dQ _ _ _ _) ae aC
   simp only[X21]at this;simpa using this
theorem zC {n:Nat}{q:Ref}{av sz off len:Nat}{v:Value}(h:aI σ β I w n (.ls q av sz off len) v) :
  ∃ b bo cap o,β (q.abs n) av=some (b,bo,cap)/\off+len<=cap/\(off<cap->o=bo+off*sz)/\v=.slice (some ⟨b,o,none⟩) len (cap-off):=by
 cases h with|ls h hl ho=>exact⟨_,_,_,_,h,hl,ho,rfl⟩
theorem Yn {t u e e':TypeId}{x y:Operand}{q:Ref}{av off m sz bytes:Nat}{f:FV}{es ys:List D}{z:List D}{cx:Cx}(bA:∀ f g,cx.gid f=some g->σ g=some f)(ht:P.underlying t=some (.slice e))(hu:P.underlying u=some (.slice e'))
  (hm:aZ P e=some sz) (hby:nP P e=some bytes) (hz:kg cx P e=some z) (hzl:z.length=sz) (hq:st.heap q=some (.row av sz es)) (hle:off+m<=es.length) (hel:elems st sz f=some ys)
  (hb:(m+ys.length)*bytes<=most) (hmax:m+ys.length<=most) (hd:jm st.base.length (st.bq q (.row (av+1) sz ((es.drop off).take m++ys))) wd)
  (hS:fQ σ β I Wr wd w st) (hx:aI σ β I w st.base.length (.ls q av sz off m) (ρ x)) (hy:aI σ β I w st.base.length f (ρ y)) :
  Yields P ⟨dst,.call {callee:=.builtin .append,args:=#[x,y],argTypes:=#[t,u]},type,pos,after,guard⟩ ρ w
   (g_ mn σ β I Wr wd w st (st.bq q (.row (av+1) sz ((es.drop off).take m++ys))) (.ls q (av+1) sz 0 (m+ys.length))):=by
 obtain⟨i,zv,hi,hzv,kI,_,_⟩:=gX (σ:=σ) (I:=I) (w:=w) bA hz;have his:i.size=sz:=by unfold aZ at hm;rw[hi]at hm;simpa using hm
 have hib:i.bytes=bytes:=by unfold nP at hby;rw[hi]at hby;simpa using hby
 obtain⟨b,bo,cap,o,hβ,hlc,Jg,SC⟩:=zC hx;have hq':=hq;rw[St.fP]at hq';obtain⟨hat,c,te,h1,h2⟩:=hS.row _ _ _ _ _ _ _ hq' hβ;have hsz:=hat.pos;obtain⟨news,hE,a,cc,hv,hc,hfc⟩:=wJ (P:=P) hsz hS hy hel;have hbl:=hS.blt _ _ _ _ _ hβ;have ak':elems st sz (.ls q av sz off m)=some ((es.drop off).take m):=by simp[elems,hq,ah.view,hle]
 obtain⟨olds,hO,a',c',hv',hc',hfo⟩:=wJ (P:=P) hsz hS hx ak';have Et:((es.drop off).take m).length=m:=by simp;omega
 have hvd:∀ v' z',β (q.abs st.base.length) v'=some z'->v'<=av:=fun v' z' hz'=>hS.mO _ _ _ _ _ _ hq' hz'
 have hnone:∀ z',β (q.abs st.base.length) (av+1)=some z'->False:=fun z' hz'=>by have:=hvd _ _ hz';omega
 by_cases hroom:m+ys.length<=cap-off
 ·-- in place
  by_cases hlt:off<cap
  ·have ho:=Jg hlt;have hfit:o+m*i.size+news.length<=c.size:=by
    rw[his,hE.len,h2,ho];have:(off+(m+ys.length))*sz<=cap*sz:=Qf0 _ ae;rw[Qq1,Qq1]at this;omega
   have hrun:=Bc (P:=P) (w:=w) (ty:=type) ht hu hi h1 (o:=o) (sLen:=m) (sCap:=cap-off) (m:=ys.length) (x:=ρ y) (news:=news) (by rw[hv];rfl) (by rw[his];exact hfc w (fun _ _=>rfl)) hE.cell1 hroom hfit;rw[his]at hrun;have hb':=setRow_heap w b c (splice c.toList (o+m*sz) news).toArray te (0,0) h1;have hkeep:∀ z,I z->(w.setRow b (splice c.toList (o+m*sz) news).toArray).heap[z]?=w.heap[z]?:=fun z hz=>setRow_other _ _ _ (fun he=>(hS.wr _ _ b bo cap hq' hβ).2 (he ▸ hz))
   have acY:o+m*sz+news.length<=c.toList.length:=by rw[<-his];simpa using hfit
   have hcell:∀ k,(w.setRow b (splice c.toList (o+m*sz) news).toArray).cell? ⟨b,k,none⟩=if k<o+m*sz then c[k]? else if k<o+m*sz+news.length then news[k-(o+m*sz)]? else c[k]?:=by
    intro k;simp only[World.cell?,hb',Xm2,Qh1,if_false];rw[Xf0,bR _ _ _ acY];simp
   have tY:∀ k,w.cell? ⟨b,k,none⟩=c[k]?:=fun k=>by simp[World.cell?,h1]
   have ha1:(splice c.toList (o+m*sz) news).toArray.size=(bo+off*sz)+(cap-off)*sz:=by
    rw[Xy0,length_splice _ _ _ acY];have:off*sz<=cap*sz:=Qf0 _ ae;simp[h2,Xz0];omega
   have ha2:jk σ I (w.setRow b (splice c.toList (o+m*sz) news).toArray) b (bo+off*sz) (cap-off) sz ((es.drop off).take m++ys):=by
    have hwide:∀ e ∈ (es.drop off).take m++ys,e.cells.length=sz:=(hO.append hE).wide;refine⟨hsz,by rw[Qb0,Et];exact hroom,hwide,(hO.append hE).one,?_⟩;intro i' e1 he1 j d hd;have hj:j<sz:=by
     have:=(aT hd)
     rw[hwide _ (Qa2 he1)]at this;exact this
    rw[hcell]
    by_cases hi':i'<m
    ·rw[Qa0 (by rw[Et];exact hi'),Qp0,if_pos hi',Qx2]at he1;obtain⟨z',hz1,hz2⟩:=hat.at_ _ e1 he1 j d hd;have hpos:bo+off*sz+i'*sz+j<o+m*sz:=by
      rw[ho];have:(i'+1)*sz<=m*sz:=Qf0 _ ae;rw[Qq1]at this;omega
     refine⟨z',?_,hz2.mono (fun _ e=>e) hkeep⟩;rw[if_pos hpos,<-tY,show bo+off*sz+i'*sz+j=bo+(off+i')*sz+j by rw[Qq1];omega];exact hz1
    ·rw[Qc0 (by rw[Et];omega),Et]at he1;obtain⟨z',hz1,hz2⟩:=hE.rep _ e1 j d he1 hd;have hge:m*sz<=i'*sz:=Qf0 _ ae;have hlt2:=(aT hz1)
     rw[Xz0]at hz1 hlt2;refine⟨z',?_,hz2.mono (fun _ e=>e) hkeep⟩;rw[if_neg (by rw[ho];omega),if_pos (by rw[ho];omega),<-hz1]
     congr 1
     rw[ho];omega
   obtain⟨k1,k2⟩:=hS.upd (hkw:=St.bK _ _ _ hd) (w':=w.setRow b (splice c.toList (o+m*sz) news).toArray) hq' (show(ah.row av sz es).live β _=some (b,bo,cap) from hβ) (.row (av+1) sz ((es.drop off).take m++ys)) (av+1) b (bo+off*sz) (cap-off)
    (by rw[setRow_size];exact Qd2 _) (fun z _ hz=>setRow_other _ _ _ hz) (.inl rfl) (by rw[setRow_size];exact hbl) (fun z hz=>(hnone z hz).elim)
    rfl rfl rfl (fun _=>Qd2 _) (.inr (.inl ⟨sz,_,_,te,rfl,fun v' z hz=>by have:=hvd _ _ hz;omega,hb',ha1,ha2⟩))
   refine aB (x:=.slice (some ⟨b,o,none⟩) (m+ys.length) (cap-off)) (w':=w.setRow b (splice c.toList (o+m*sz) news).toArray) ?_ ⟨_,I,k1,by rw[St.dJ];exact k2,?_,kX (St.bK _ _ _ hd)⟩
   ·rw[jM,SC];simp only[Sem.run_bind,hrun,Result.andThen_ok];rfl
   ·have:=aI.ls (σ:=σ) (β:=β.put (q.abs st.base.length) (av+1) (b,bo+off*sz,cap-off)) (I:=I) (w:=w.setRow b (splice c.toList (o+m*sz) news).toArray) (n:=st.base.length)
     (p:=q) (av:=av+1) (sz:=sz) (off:=0) (len:=m+ys.length) (o:=o) (Map.dQ _ _ _ _) ae (fun _=>by rw[ho];omega)
    simpa using this
  ·-- no room at all: nothing is there and nothing comes
   have hm0:m=0:=ae;have hy0:ys=[]:=by cases ys<;>simp_all
   have hoc:off=cap:=ae;subst hm0;subst hy0;have hnews:news=[]:=by have:=hE.len;simpa using this
   subst hnews;have hrun:(Builtin.append_ #[t,u] type #[.slice (some ⟨b,o,none⟩) 0 (cap-off),ρ y]).run P w=.ok (.slice (some ⟨b,o,none⟩) 0 (cap-off)) w:=by
    have afo:=hfc w (fun _ _=>rfl);rw[<-his]at afo;have hlen:(Builtin.lenOf (ρ y)).run P w=.ok 0 w:=by rw[hv];rfl
    simp only[Qs0]at afo;simp[Builtin.append_,run_underlying ht,run_underlying hu,Go.sizeOf,typeInfo,hi,hlen,afo,storeCells]
   obtain⟨k1,k2⟩:=hS.upd (hkw:=St.bK _ _ _ hd) (w':=w) hq' (show(ah.row av sz es).live β _=some (b,bo,cap) from hβ) (.row (av+1) sz ((es.drop off).take 0++[])) (av+1) b (bo+off*sz) (cap-off)
    (Qd2 _) (fun z _ hz=>rfl) (.inl rfl) hbl (fun z hz=>(hnone z hz).elim)
    rfl rfl rfl (fun _=>Qd2 _) (.inr (.inl ⟨sz,_,_,te,rfl,fun v' z hz=>by have:=hvd _ _ hz;omega,h1,by rw[h2,hoc];simp,⟨hsz,aC,aC,aC,fun i e he=>by simp at he⟩⟩))
   refine aB (x:=.slice (some ⟨b,o,none⟩) 0 (cap-off)) (w':=w) ?_ ⟨_,I,k1,by rw[St.dJ];exact k2,?_,kX (St.bK _ _ _ hd)⟩
   ·rw[jM,SC];simp only[Sem.run_bind,hrun,Result.andThen_ok];rfl
   ·have:=aI.ls (σ:=σ) (β:=β.put (q.abs st.base.length) (av+1) (b,bo+off*sz,cap-off)) (I:=I) (w:=w) (n:=st.base.length)
     (p:=q) (av:=av+1) (sz:=sz) (off:=0) (len:=0) (o:=o) (Map.dQ _ _ _ _) ae (fun hh=>by omega)
    simpa using this
 ·-- a new block
  have amf:m<=cap-off:=ae;have hnl:m*bytes<=most:=Qc1 (Qf0 _ ae) hb;have hfit:Builtin.nextslicecap (m+ys.length) (cap-off)*i.bytes<=281474976710656:=by
   rw[hib];exact growslice_fits ae (GH hb)
  rw[Et]at hfo;have hrun:=qh (P:=P) (w:=w) (ty:=type) ht hu hi hzv (base:=some ⟨b,o,none⟩) (sLen:=m) (sCap:=cap-off) (m:=ys.length) (x:=ρ y) (olds:=olds) (news:=news) (by rw[hv];rfl)
   (by rw[his,<-SC];exact hfo w.drew (fun _ _=>rfl)) (by rw[his];exact hfc w.drew (fun _ _=>rfl)) ae (by unfold most at hmax;omega) hfit
  have hcap:=grownCap_ge w (m+ys.length) (cap-off) e;have hSd:=drew_grow hS;have hEE:=(hO.append hE).mono (w':=w.drew) (fun _ h=>h) (fun _ _=>rfl);generalize hG:grownCap w (m+ys.length) (cap-off) e=G at hrun hcap;generalize hblk:(olds++news++(Builtin.zeroCells zv.cells (G-(m+ys.length))).toList)=blk at hrun;have ais:blk.length=G*sz:=by
   have e1:=hEE.len;simp only[Qb0,Et]at e1;have e2:(Builtin.zeroCells zv.cells (G-(m+ys.length))).toList.length=(G-(m+ys.length))*sz:=by simp[size_zeroCells,<-kI,hzl]
   rw[<-hblk,Qb0,Qb0,e1,e2,Xz0];have:(m+ys.length)*sz<=G*sz:=Qf0 _ hcap;omega
  have hnew:(w.drew.alloc (.cells blk.toArray e)).heap[w.heap.size]?=some (.cells blk.toArray e (0,0)):=pY w.drew _;have ha2:jk σ I (w.drew.alloc (.cells blk.toArray e)) w.heap.size 0 G sz ((es.drop off).take m++ys):=by
   refine⟨hsz,by rw[Qb0,Et];exact hcap,hEE.wide,hEE.one,?_⟩;intro i' e1 he1 j d hd;obtain⟨z',hz1,hz2⟩:=hEE.rep _ e1 j d he1 hd;have hlt2:=(aT hz1)
   refine⟨z',?_,hz2.mono (fun _ h=>h) (fun bb hbb=>alloc_old w.drew _ (hSd.mf _ hbb))⟩;simp only[World.cell?,hnew,Xm2,Qh1,if_false];rw[Xf0,<-hblk,Qz2,Qa0 hlt2];exact hz1
  obtain⟨k1,k2⟩:=hSd.upd (hkw:=St.bK _ _ _ hd) (w':=w.drew.alloc (.cells blk.toArray e)) hq' (show(ah.row av sz es).live β _=some (b,bo,cap) from hβ) (.row (av+1) sz ((es.drop off).take m++ys)) (av+1) w.heap.size 0 G
   aC (fun z hz _=>alloc_old w.drew _ hz) (.inr (Qd2 _)) aC (fun z hz=>(hnone z hz).elim)
   rfl rfl rfl (fun _=>Qd2 _) (.inr (.inl ⟨sz,_,_,e,rfl,fun v' z hz=>by have:=hvd _ _ hz;omega,hnew,by simp[ais],ha2⟩))
  refine aB (x:=.slice (some ⟨w.heap.size,0,none⟩) (m+ys.length) G) (w':=w.drew.alloc (.cells blk.toArray e)) ?_ ⟨_,I,(ym β I Wr w).trans k1,by rw[St.dJ];exact k2,?_,kX (St.bK _ _ _ hd)⟩
  ·rw[jM,SC];simp only[Sem.run_bind,hrun,Result.andThen_ok];rfl
  ·have:=aI.ls (σ:=σ) (β:=β.put (q.abs st.base.length) (av+1) (w.heap.size,0,G)) (I:=I) (w:=w.drew.alloc (.cells blk.toArray e)) (n:=st.base.length)
    (p:=q) (av:=av+1) (sz:=sz) (off:=0) (len:=m+ys.length) (o:=0) (Map.dQ _ _ _ _) ae aC
   simpa using this
end app
end
section
variable {mn:Prop}
section fill
theorem foldl_set (off:Nat):∀ (l:List Value) (k:Nat) (cells:Array Value),off+k+l.length<=cells.size ->
  (l.zipIdx k).foldl (fun cs (p:Value × Nat)=>cs.setIfInBounds (off+p.2) p.1) cells=(splice cells.toList (off+k) l).toArray
 | [],k,cells,_=>by simp[splice]
 | v::r,k,cells,h=>by
  simp only[Qf2]at h;rw[List.zipIdx_cons,Ql1,foldl_set off r (k+1) _ (by simp;omega)]
  congr 1
  apply Xp1;intro p;rw[bR _ _ _ (by simp;omega),bR _ _ _ (by simp;omega)];simp only[Array.toList_setIfInBounds,Qf2]
  by_cases h1:p<off+k
  ·rw[if_pos ae,if_pos h1,Qb2 ae]
  ·by_cases h2:p=off+k
   ·subst h2;rw[if_pos ae,if_neg ae,if_pos ae,Qd1 (by simp;omega)];simp
   ·rw[if_neg ae,if_neg h1]
    by_cases h3:p<off+k+(r.length+1)
    ·rw[if_pos ae,if_pos h3];rw[show p-(off+k)=(p-(off+(k+1)))+1 by omega];simp
    ·rw[if_neg ae,if_neg h3,Qb2 ae]
theorem GI (place:Nat->Option (Nat × Nat))(cells:Array Value)(i:Nat)(v:Value)(rest:List (Nat × Value)){off size:Nat}(hp:place i=some (off,size))(hv:v.cells.size=size)(hle:off+size<=cells.size) :
  Instr.fill place cells ((i,v)::rest)=Instr.fill place (splice cells.toList off v.cells.toList).toArray rest:=by
 have hz:v.cells.zipIdx.foldl (fun cs (p:Value × Nat)=>cs.setIfInBounds (off+p.2) p.1) cells=(splice cells.toList off v.cells.toList).toArray:=by
  have:=foldl_set off v.cells.toList 0 cells (by simp;omega);rw[Q52]at this;rw[<-this,<-Array.foldl_toList]
  congr 1
  simp
 have h1:(v.cells.size≠size||decide (off+v.cells.size > cells.size))=false:=by simp[hv];omega
 simp only[Instr.fill,hp];rw[if_neg (by simpa using h1)];rw[<-hz]
end fill
section ops
variable {P:Program} {σ:Nat->Option FuncId} {β:Map} {I Wr:Nat->Prop} {wd:Nat->Prop} {w:World} {st:St} {ρ:Operand->Value}
variable {dst:Option Tmp} {type:TypeId} {pos:String} {after:Array Edge} {guard:Option (Nat × Bool)}
theorem gK.set {sz i:Nat}{es:List D}{cells:List Value}{y:D}{vs:List Value}(h:gK σ I w sz es cells)(hi:i<es.length)(hw:y.cells.length=sz)(ho:∀ c ∈ y.cells,c.one=true)(hl:vs.length=sz)
  (h1:∀ v ∈ vs,v.oneCell'=true) (hr:∀ (j:Nat) (d:D) (x:Value),y.cells[j]?=some d->vs[j]?=some x->bE σ I w d x):gK σ I w sz (es.set i y) (splice cells (i*sz) vs):=by
 have hle:i*sz+vs.length<=cells.length:=by
  rw[h.len,hl];have:(i+1)*sz<=es.length*sz:=Qf0 _ hi;rw[Qq1]at this;omega
 refine⟨by rw[length_splice _ _ _ hle,Xg0,h.len],?_,?_,?_,?_⟩
 ·intro e he;rcases Q41 he with he|rfl
  ·exact h.wide e he
  ·exact hw
 ·intro e he;rcases Q41 he with he|rfl
  ·exact h.one e he
  ·exact ho
 ·intro v hv;rcases qZ hv with hv|hv
  ·exact h.cell1 v hv
  ·exact h1 v hv
 ·intro i' e j d he hd;rw[bR _ _ _ hle]
  by_cases hii:i'=i
  ·subst hii;rw[Qd1 hi]at he;cases he;have hj:j<sz:=by rw[<-hw];exact(aT hd)
   rw[if_neg ae,if_pos ae,show i'*sz+j-i'*sz=j by omega];have hx:vs[j]?=some (vs[j]'(by omega)):=Qa1 _;exact⟨_,hx,hr j d _ hd hx⟩
  ·rw[Qb2 (Ne.symm hii)]at he;obtain⟨x,h1',h2'⟩:=h.rep i' e j d he hd;have hj:j<sz:=by
    have:=(aT hd)
    rw[h.wide _ (Qa2 he)]at this;exact this
   refine⟨x,?_,h2'⟩
   by_cases h5:i'*sz+j<i*sz
   ·rw[if_pos h5];exact h1'
   ·rw[if_neg h5,if_neg]
    ·exact h1'
    ·intro h6;have:i'*sz+j=i*sz+(i'*sz+j-i*sz):=ae;exact Es hii (by omega:i'*sz+j-i*sz<sz) hj this
theorem vG {agg:Bool}{sz:Nat}{x:FV}{y:D}{v:Value}{n:Nat}(h:jP agg sz x=some y)(hr:aI σ β I w n x v) :
  y.cells.length=sz/\(∀ c ∈ y.cells,c.one=true)/\bE σ I w y v:=by
 unfold jP at h;split at h
 ·rename_i y0;have hr':bE σ I w y0.norm v:=by cases hr with|d h=>exact h.norm
  split at h
  ·rename_i cs hcs;split at h<;>simp at h;rename_i hh;subst h;rw[hcs]at hr';exact⟨hh.2.1,fun c hc=>Qh2.1 hh.2.2 c hc,hr'⟩
  ·rename_i hcs;split at h<;>simp at h;rename_i hh;subst h;rw[D.Lm hh.2.2];exact⟨by simp[hh.2.1],fun c hc=>by simp at hc;subst hc;exact hh.2.2,hr'⟩
 ·simp at h
theorem Eu {sz:Nat}:∀ {parts:List (Nat × Value)} {ys:List D} {es es':List D} {cells:Array Value},gK σ I w sz es cells.toList->parts.length=ys.length ->
  (∀ (i:Nat) (p:Nat × Value) (y:D),parts[i]?=some p->ys[i]?=some y->y.cells.length=sz/\(∀ c ∈ y.cells,c.one=true)/\bE σ I w y p.2) ->
  m_ es ((parts.map (·.1)).zip ys)=some es'->∃ cells',Instr.fill (fun i=>some (i*sz,sz)) cells parts=some cells'/\gK σ I w sz es' cells'.toList
 | [],ys,es,es',cells,hE,_,_,h=>by
  simp[m_]at h;subst h;exact⟨cells,rfl,hE⟩
 | (i,v)::parts,[],es,es',cells,hE,hl,hp,h=>by simp at hl
 | (i,v)::parts,y::ys,es,es',cells,hE,hl,hp,h=>by
  simp only[Qe2,List.zip_cons_cons,m_]at h;split at h
  ·rename_i hi;obtain⟨a1,a2,a3⟩:=hp 0 (i,v) y rfl rfl;obtain⟨b1,b2,b3⟩:=a3.cells (Qh2.2 a2);have b1':v.cells.size=y.cells.length:=b1;have hE':=hE.set hi a1 a2 (vs:=v.cells.toList) (by simp;omega) b3 (fun j d x hd hx=>b2 j d x hd (by simpa using hx));have hle:i*sz+sz<=cells.size:=by
    have e1:=hE.len;have:(i+1)*sz<=es.length*sz:=Qf0 _ hi;rw[Qq1]at this;simp at e1;omega
   have hst:=GI (fun i=>some (i*sz,sz)) cells i v parts rfl ae hle;obtain⟨cells',c1,c2⟩:=Eu (cells:=(splice cells.toList (i*sz) v.cells.toList).toArray) (by simpa using hE') (by simpa using hl)
    (fun k p z hk hz=>hp (k+1) p z (by simpa using hk) (by simpa using hz)) h
   exact⟨cells',by rw[hst];exact c1,c2⟩
  ·simp at h
theorem nS {z:List D}{zv:Value}{sz len:Nat}{g:Bool}(hl:z.length=zv.cells.size)(hsz:z.length=sz)(h0:0<sz)(hrep:∀ (j:Nat) (y:D) (x:Value),z[j]?=some y->zv.cells[j]?=some x->bE σ I w y x)
  (hone:∀ y ∈ z,y.one=true) (hg:¬ (g=false/\sz≠1)) :
  gK σ I w sz (List.replicate len (if g then .a (z.map D.di) else(z.map D.di).headD (.t []))) ((Array.range (len*sz)).map (zv.cells[· % zv.cells.size]!)).toList /\
   (if g then D.a (z.map D.di) else(z.map D.di).headD (.t [])).cells=z.map D.di:=by
 have hn1:∀ y ∈ z,y.di.one=true:=fun y hy=>by
  have:=hone y hy;cases y<;>first|rfl|exact this
 have hc:(if g then D.a (z.map D.di) else(z.map D.di).headD (.t [])).cells=z.map D.di:=by
  cases g
  ·have h1:sz=1:=by simpa using hg
   rw[h1]at hsz
   match z,hsz with
   | [c],_ =>
    simp only[Qh1,if_false,Qe2,Qc2,List.headD_cons];exact D.uS (hn1 c aC)
  ·rfl
 refine⟨⟨aC,?_,?_,?_,?_⟩,hc⟩
 ·intro e he;rw[(Xv1.1 he).2,hc,Qj1,hsz]
 ·intro e he c hcc;rw[(Xv1.1 he).2,hc]at hcc;obtain⟨y,hy,rfl⟩:=Qg1.1 hcc;exact hn1 y hy
 ·intro v hv;simp only[Array.toList_map,Qg1]at hv;obtain⟨k,hk,rfl⟩:=hv;have hlt:k % zv.cells.size<zv.cells.size:=Qu1 _ ae;have hzk:z[k % zv.cells.size]?=some (z[k % zv.cells.size]'(by omega)):=Qa1 _;have hvk:zv.cells[k % zv.cells.size]?=some zv.cells[k % zv.cells.size]:=by simp[hlt]
  have:(zv.cells[k % zv.cells.size]!)=zv.cells[k % zv.cells.size]:=by simp[hlt]
  rw[this];exact(hrep _ _ _ hzk hvk).oneCell (hone _ (Qi0 _))
 ·intro i e j d he hd;have hi:i<len:=by have:=(aT he);simpa using this
  rw[Xh1,if_pos hi]at he;cases he;rw[hc]at hd;have hj:j<sz:=by have:=(aT hd);rw[Qj1,hsz]at this;exact this
  have hmod:(i*sz+j) % zv.cells.size=j:=by
   rw[<-hl,hsz,Xp2,Nat.add_mul_mod_self_right,Qx1 hj]
  have hlt:j<zv.cells.size:=ae;have hpos:i*sz+j<len*sz:=by
   have:(i+1)*sz<=len*sz:=Qf0 _ hi;rw[Qq1]at this;omega
  simp only[Qb1,Qf1]at hd;obtain⟨y,hy,rfl⟩:=hd;refine⟨zv.cells[j],?_,(hrep j y _ hy (by simp[hlt])).di⟩;simp[hpos,hmod,hlt]
theorem jk.splice {b bo cap sz off o:Nat}{c:Array Value}{te:TypeId}{es ys:List D}{news:List Value}(h:jk σ I w b bo cap sz es)(hb:w.heap[b]?=some (.cells c te (0,0)))(hc:c.size=bo+cap*sz)(hE:gK σ I w sz ys news)
  (hle:off+ys.length<=es.length) (ho:o=bo+off*sz) (hnI:¬ I b):jk σ I (w.setRow b (Fi.splice c.toList o news).toArray) b bo cap sz (Fi.splice es off ys):=by
 have hfit:=h.fit;have hlen:=hE.len;have h1:(off+ys.length)*sz<=cap*sz:=Qf0 _ ae;have ala:o+news.length<=c.toList.length:=by
  rw[Qq1]at h1;simp only[Xd1];omega
 have hb':=setRow_heap w b c (Fi.splice c.toList o news).toArray te (0,0) hb;have hkeep:∀ z,I z->(w.setRow b (Fi.splice c.toList o news).toArray).heap[z]?=w.heap[z]?:=fun z hz=>setRow_other _ _ _ (fun he=>hnI (he ▸ hz))
 have hcell:∀ k,(w.setRow b (Fi.splice c.toList o news).toArray).cell? ⟨b,k,none⟩=if k<o then c[k]? else if k<o+news.length then news[k-o]? else c[k]?:=by
  intro k;simp only[World.cell?,hb',Xm2,Qh1,if_false];rw[Xf0,bR _ _ _ ala];simp
 have tY:∀ k,w.cell? ⟨b,k,none⟩=c[k]?:=fun k=>by simp[World.cell?,hb]
 have hwide:∀ e ∈ Fi.splice es off ys,e.cells.length=sz:=fun e he=>(qZ he).elim (h.wide e) (hE.wide e)
 refine⟨h.pos,by rw[length_splice _ _ _ hle];exact h.fit,hwide,fun e he=>(qZ he).elim (h.one e) (hE.one e),?_⟩;intro i e he j d hd;have hj:j<sz:=by
  have:=(aT hd)
  rw[hwide _ (Qa2 he)]at this;exact this
 rw[hcell];rw[bR _ _ _ hle]at he
 by_cases h2:i<off
 ·rw[if_pos h2]at he;have h3:(i+1)*sz<=off*sz:=Qf0 _ h2;rw[Qq1]at h3;obtain⟨x,a1,a2⟩:=h.at_ i e he j d hd;rw[if_pos ae];exact⟨x,by rw[<-tY];exact a1,a2.mono (fun _ h=>h) hkeep⟩
 ·rw[if_neg h2]at he
  by_cases h4:i<off+ys.length
  ·rw[if_pos h4]at he;obtain⟨x,a1,a2⟩:=hE.rep _ e j d he hd;have h5:off*sz<=i*sz:=Qf0 _ ae;have h6:=(aT a1)
   rw[Xz0]at a1 h6;rw[if_neg ae,if_pos ae];refine⟨x,?_,a2.mono (fun _ h=>h) hkeep⟩;rw[<-a1];congr 1;omega
  ·rw[if_neg h4]at he;obtain⟨x,a1,a2⟩:=h.at_ i e he j d hd;have h5:(off+ys.length)*sz<=i*sz:=Qf0 _ ae;rw[Qq1]at h5;rw[if_neg ae,if_neg ae];exact⟨x,by rw[<-tY];exact a1,a2.mono (fun _ h=>h) hkeep⟩
theorem yn {t e:TypeId}{x:Operand}{f:FV}{a:Option Addr}{c:Nat}(ht:P.underlying t=some (.slice e))(hx:ρ x=.slice a 0 c)(hS:fQ σ β I Wr wd w st) :
  Yields P ⟨dst,.call {callee:=.builtin .clear,args:=#[x],argTypes:=#[t]},type,pos,after,guard⟩ ρ w (g_ mn σ β I Wr wd w st st (.d (.t []))):=by
 refine aB (x:=.tuple #[]) (w':=w) ?_ ⟨β,I,Ext.refl _ _ _ _,hS,l5,fun _ _ _ _=>rfl⟩;cases a<;>simp[execOp,resolve,invoke,builtin,hx,Builtin.clear_,run_underlying ht]
theorem abX {t e:TypeId}{x:Operand}{q:Ref}{av off m sz:Nat}{g:Bool}{es:List D}{z:List D}{cx:Cx}(bA:∀ f g,cx.gid f=some g->σ g=some f)(ht:P.underlying t=some (.slice e))
  (hm:aZ P e=some sz) (hz:kg cx P e=some z) (hzl:z.length=sz) (hg:¬ (g=false/\sz≠1)) (h0:0<m) (hq:st.heap q=some (.row av sz es)) (hle:off+m<=es.length)
  (hd:jm st.base.length (st.bq q (.row av sz (splice es off (List.replicate m (if g then .a (z.map D.di) else(z.map D.di).headD (.t [])))))) wd)
  (hS:fQ σ β I Wr wd w st) (hx:aI σ β I w st.base.length (.ls q av sz off m) (ρ x)) :
  Yields P ⟨dst,.call {callee:=.builtin .clear,args:=#[x],argTypes:=#[t]},type,pos,after,guard⟩ ρ w
   (g_ mn σ β I Wr wd w st (st.bq q (.row av sz (splice es off (List.replicate m (if g then .a (z.map D.di) else(z.map D.di).headD (.t [])))))) (.d (.t []))):=by
 obtain⟨i,zv,hi,hzv,kI,hrep,hone⟩:=gX (σ:=σ) (I:=I) (w:=w) bA hz;obtain⟨b,bo,cap,o,hβ,hlc,Jg,SC⟩:=zC hx;have hq':=hq;rw[St.fP]at hq';obtain⟨hat,c,te,h1,h2⟩:=hS.row _ _ _ _ _ _ _ hq' hβ;have hsz:=hat.pos;have hbl:=hS.blt _ _ _ _ _ hβ;obtain⟨z1,z2⟩:=nS (σ:=σ) (I:=I) (w:=w) (len:=m) kI hzl hsz hrep hone hg;have hzc:(Builtin.zeroCells zv.cells m).toList=((Array.range (m*sz)).map (zv.cells[· % zv.cells.size]!)).toList:=by
  simp[Builtin.zeroCells,<-kI,hzl]
 rw[<-hzc]at z1;have ho:=Jg (by have:=hat.fit;omega);have hrl:(List.replicate m (if g then D.a (z.map D.di) else(z.map D.di).headD (.t []))).length=m:=aC;have hA:=hat.splice (off:=off) (o:=o) h1 h2 z1 (by rw[hrl];exact hle) ho (hS.wr _ _ b bo cap hq' hβ).2;have hnl:=z1.len;rw[hrl]at hnl;have hfit:o+(Builtin.zeroCells zv.cells m).toList.length<=c.size:=by
  have h5:(off+m)*sz<=cap*sz:=Qf0 _ ae;rw[Qq1]at h5;omega
 have hrun:=run_storeCells_at P b o te (Builtin.zeroCells zv.cells m).toList 0 c w h1 (by simpa using hfit) z1.cell1;rw[Q52]at hrun;have hb':=setRow_heap w b c (splice c.toList o (Builtin.zeroCells zv.cells m).toList).toArray te (0,0) h1;have ha1:(splice c.toList o (Builtin.zeroCells zv.cells m).toList).toArray.size=bo+cap*sz:=by
  rw[Xy0,length_splice _ _ _ (by simpa using hfit)];simpa using h2
 obtain⟨k1,k2⟩:=hS.upd (mn:=mn) (hkw:=St.bK _ _ _ hd) (w':=w.setRow b (splice c.toList o (Builtin.zeroCells zv.cells m).toList).toArray) hq' (show(ah.row av sz es).live β _=some (b,bo,cap) from hβ) (.row av sz (splice es off (List.replicate m (if g then .a (z.map D.di) else(z.map D.di).headD (.t []))))) av b bo cap
  (by rw[setRow_size];exact Qd2 _) (fun z _ hz=>setRow_other _ _ _ hz) (.inl rfl) (by rw[setRow_size];exact hbl) (fun z hz=>by rw[hβ]at hz;cases hz;rfl)
  rfl rfl rfl (fun _=>Qd2 _) (.inr (.inl ⟨sz,_,_,te,rfl,fun v' z hz=>hS.mO _ _ _ _ _ _ hq' hz,hb',ha1,hA⟩))
 refine aB (x:=.tuple #[]) (w':=w.setRow b (splice c.toList o (Builtin.zeroCells zv.cells m).toList).toArray) ?_ ⟨_,I,k1,by rw[St.dJ];exact k2,l5,kX (St.bK _ _ _ hd)⟩;have hm0:m≠0:=ae;have hst:(storeCells ⟨b,o,none⟩ (Builtin.zeroCells zv.cells m).toList).run P w=.ok () (w.setRow b (splice c.toList o (Builtin.zeroCells zv.cells m).toList).toArray):=hrun;simp only[execOp,resolve,invoke,builtin,SC];obtain⟨m',rfl⟩:∃ k,m=k+1:=⟨m-1,ae⟩
 simp[SC,Builtin.clear_,run_underlying ht,zeroValue,typeInfo,hi,hzv,hst]
theorem alb {t e:TypeId}{x y:Operand}{sz bytes:Nat}{g:Bool}{z:List D}{cx:Cx}{kl kc:IntKind}{l c:Int}(bA:∀ f g,cx.gid f=some g->σ g=some f)(ht:P.underlying t=some (.slice e))(hm:aZ P e=some sz)(hby:nP P e=some bytes)
  (hz:kg cx P e=some z) (hsz:0<sz) (hzl:z.length=sz) (hg:¬ (g=false/\sz≠1)) (h0:0<=l) (hlc:l<=c) (hb:c*bytes<=most) (hmax:c<=most)
  (hS:fQ σ β I Wr wd w st) (hx:aI σ β I w st.base.length (.d (.v (.int kl l))) (ρ x)) (hy:aI σ β I w st.base.length (.d (.v (.int kc c))) (ρ y)) :
  Yields P ⟨dst,.makeSlice t x y,type,pos,after,guard⟩ ρ w
   (g_ mn σ β I Wr wd w st (st.push (.row 0 sz (List.replicate l.toNat (if g then .a (z.map D.di) else(z.map D.di).headD (.t []))))) (.ls (.loc st.loc.length) 0 sz 0 l.toNat)):=by
 obtain⟨i,zv,hi,hzv,kI,hrep,hone⟩:=gX (σ:=σ) (I:=I) (w:=w) bA hz;have his:i.size=sz:=by unfold aZ at hm;rw[hi]at hm;simpa using hm
 have hib:i.bytes=bytes:=by unfold nP at hby;rw[hi]at hby;simpa using hby
 have hrun:=run_make (P:=P) w t e i zv ht hi hzv kl kc l c h0 hlc (by rw[hib,Int.mul_comm];unfold most at hb;omega) (by unfold most at hmax;omega);rw[his]at hrun;obtain⟨z1,z2⟩:=nS (σ:=σ) (I:=I) (w:=w) (len:=c.toNat) kI hzl hsz hrep hone hg;obtain⟨k1,k2⟩:=hS.push (madeCells zv.cells (c.toNat*sz)) e (.row 0 sz (List.replicate l.toNat (if g then .a (z.map D.di) else(z.map D.di).headD (.t [])))) 0 c.toNat
  (.inr ⟨sz,_,rfl,hsz,by simp;omega,fun e' he'=>by rw[(Xv1.1 he').2,z2,Qj1,hzl],fun e' he'=>by
   have hc0:e' ∈ List.replicate (l.toNat) (if g then .a (z.map D.di) else(z.map D.di).headD (.t [])):=he';rw[(Xv1.1 he').2,z2];intro c1 hc1;obtain⟨y1,hy1,rfl⟩:=Qg1.1 hc1;have:=hone y1 hy1;cases y1<;>first|rfl|exact this,by rw[size_madeCells],fun i' e' j d he' hd=>by
   have hi':i'<l.toNat:=by have:=(aT he');simpa using this
   rw[Xh1,if_pos hi']at he';obtain⟨x',hx1,hx2⟩:=z1.rep i' e' j d (by rw[Xh1,if_pos ae];exact he') hd;exact⟨x',by rw[<-Qt0];exact hx1,hx2⟩⟩)
 refine aB (x:=.slice (some ⟨w.heap.size,0,none⟩) l.toNat c.toNat) (w':=w.alloc (.cells (madeCells zv.cells (c.toNat*sz)) e)) ?_ ⟨_,I,k1,by rw[St.oG];exact k2,?_,nQ⟩
 ·simp only[execOp,hx.val,hy.val,Sem.run_bind,hrun,Result.andThen_ok];rfl
 ·have:=aI.ls (σ:=σ) (β:=β.put (st.base++st.loc).length 0 (w.heap.size,0,c.toNat)) (I:=I) (w:=w.alloc (.cells (madeCells zv.cells (c.toNat*sz)) e)) (n:=st.base.length)
   (p:=.loc st.loc.length) (av:=0) (sz:=sz) (off:=0) (len:=l.toNat) (o:=0) (by simp only[Ref.abs,Qb0];exact Map.dQ _ _ _ _) ae aC
  simpa using this
theorem zO {t u ty e:TypeId}{i:TypeInfo}{z:Value}{k0:IntKind}(ht:P.underlying t=some (.slice e))(hu:P.underlying u=some (.int k0))(hi:P.info? e=some i)(hz:i.zero=some z){k:IntKind}{l:Int}
  (h0:0<l) (hmax:l<=most) (hb:l*i.bytes<=most) (hs:0<i.size) :
  (Builtin.append_ #[t,u] ty #[.slice none 0 0,.int k l]).run P w =
   .ok (.slice (some ⟨w.heap.size,0,none⟩) l.toNat (grownCap w l.toNat 0 e))
    (w.drew.alloc (.cells ((Builtin.zeroCells z.cells l.toNat).toList++(Builtin.zeroCells z.cells (grownCap w l.toNat 0 e-l.toNat)).toList).toArray e)):=by
 have hw:IntKind.i64.wrap l=l:=by
  simp only[most]at hmax;simp[IntKind.wrap,IntKind.bits,IntKind.signed];omega
 have h1:¬ l<0:=ae;have h2:¬ (281474976710656:Int)<l*i.bytes:=by simp only[most]at hb;omega
 have h3:¬ l.toNat=0:=ae;have h4:¬ (l.toNat=0\/i.size=0):=ae;have h5:¬ (9223372036854775807:Int)<(l.toNat:Int):=by simp only[most]at hmax;omega
 have hlt:(l.toNat:Int)=l:=Int.toNat_of_nonneg ae;have h6:Builtin.nextslicecap l.toNat 0=l.toNat:=nextslicecap_zero ae;have h7:¬ 281474976710656<l.toNat*i.bytes:=by
  have:((l.toNat*i.bytes:Nat):Int)=l*i.bytes:=by rw[Int.natCast_mul,hlt]
  omega
 have h8:¬ l<=0:=ae;have h9:¬ (9223372036854775807:Int)<max l 0:=by simp only[most]at hmax;omega
 have h10:¬ l.toNat*i.size=0:=by rw[Nat.mul_eq_zero];exact h4
 simp[Builtin.append_,run_underlying ht,run_underlying hu,Go.sizeOf,typeInfo,zeroValue,hi,hz,asInt,asIntOf,hw,h1,h2,h3,h4,h5,h6,h7,h8,h9,h10,Question.forced,newRow,grownCap,Builtin.firstCells]
 congr 2
 apply Q40;simp
theorem afp {t u e:TypeId}{x y:Operand}{sz bytes:Nat}{g:Bool}{z:List D}{cx:Cx}{k k0:IntKind}{l:Int}(bA:∀ f g,cx.gid f=some g->σ g=some f)(ht:P.underlying t=some (.slice e))(hu:P.underlying u=some (.int k0))(hm:aZ P e=some sz)(hby:nP P e=some bytes)
  (hz:kg cx P e=some z) (hsz:0<sz) (hzl:z.length=sz) (hg:¬ (g=false/\sz≠1)) (h0:0<l) (hb:l*bytes<=most) (hmax:l<=most)
  (hS:fQ σ β I Wr wd w st) (hx:aI σ β I w st.base.length (.d (.n sz)) (ρ x)) (hy:aI σ β I w st.base.length (.d (.v (.int k l))) (ρ y)) :
  Yields P ⟨dst,.call {callee:=.builtin .append,args:=#[x,y],argTypes:=#[t,u]},type,pos,after,guard⟩ ρ w
   (g_ mn σ β I Wr wd w st (st.push (.row 0 sz (List.replicate l.toNat (if g then .a (z.map D.di) else(z.map D.di).headD (.t []))))) (.ls (.loc st.loc.length) 0 sz 0 l.toNat)):=by
 obtain⟨i,zv,hi,hzv,kI,hrep,hone⟩:=gX (σ:=σ) (I:=I) (w:=w) bA hz;have his:i.size=sz:=by unfold aZ at hm;rw[hi]at hm;simpa using hm
 have hib:i.bytes=bytes:=by unfold nP at hby;rw[hi]at hby;simpa using hby
 have hrun:=zO (P:=P) (w:=w) (ty:=type) (k:=k) ht hu hi hzv h0 hmax (by rw[hib];exact hb) ae;obtain⟨z1,z2⟩:=nS (σ:=σ) (I:=I) (w:=w) (len:=l.toNat) kI hzl hsz hrep hone hg;have hcap:=grownCap_ge w l.toNat 0 e;have hzc:(Builtin.zeroCells zv.cells l.toNat).toList=((Array.range (l.toNat*sz)).map (zv.cells[· % zv.cells.size]!)).toList:=by
  simp[Builtin.zeroCells,<-kI,hzl]
 obtain⟨k1,k2⟩:=(drew_grow hS).newRow (mn:=mn) (cap:=grownCap w l.toNat 0 e) (news:=(Builtin.zeroCells zv.cells l.toNat).toList) (rest:=(Builtin.zeroCells zv.cells (grownCap w l.toNat 0 e-l.toNat)).toList) hsz
  (by rw[hzc];exact z1.mono (w':=w.drew) (fun _ h=>h) (fun _ _=>rfl)) (by simpa using hcap) (by simp[size_zeroCells,<-kI,hzl]) e 0
 refine aB (x:=.slice (some ⟨w.heap.size,0,none⟩) l.toNat (grownCap w l.toNat 0 e)) (w':=_) ?_ ⟨_,I,(ym β I Wr w).trans k1,by rw[St.oG];exact k2,?_,nQ⟩
 ·rw[jM,oD hx,hy.val];simp only[Sem.run_bind,hrun,Result.andThen_ok];rfl
 ·have:=aI.ls (σ:=σ) (β:=β.put (st.base++st.loc).length 0 (w.drew.heap.size,0,grownCap w l.toNat 0 e)) (I:=I) (w:=w.drew.alloc (.cells ((Builtin.zeroCells zv.cells l.toNat).toList++(Builtin.zeroCells zv.cells (grownCap w l.toNat 0 e-l.toNat)).toList).toArray e)) (n:=st.base.length)
   (p:=.loc st.loc.length) (av:=0) (sz:=sz) (off:=0) (len:=l.toNat) (b:=w.heap.size) (bo:=0) (cap:=grownCap w l.toNat 0 e) (o:=0) (by simp only[Ref.abs,Qb0];exact Map.dQ _ _ _ _) ae aC
  simpa using this
theorem afq {t e:TypeId}{sz len:Nat}{g:Bool}{parts:Array (Nat × Operand)}{z:List D}{cx:Cx}{ys es':List D}(bA:∀ f g,cx.gid f=some g->σ g=some f)(ht:P.underlying t=some (.slice e))(hm:aZ P e=some sz)
  (hz:kg cx P e=some z) (hsz:0<sz) (hzl:z.length=sz) (hg:¬ (g=false/\sz≠1)) (hlen:len<=1000) (afr:sz<=1000) (hpl:parts.toList.length=ys.length)
  (hp:∀ (i:Nat) (p:Nat × Operand) (y:D),parts.toList[i]?=some p->ys[i]?=some y->y.cells.length=sz/\(∀ c ∈ y.cells,c.one=true)/\bE σ I w y (ρ p.2))
  (hf:m_ (List.replicate len (if g then .a (z.map D.di) else(z.map D.di).headD (.t []))) ((parts.toList.map (·.1)).zip ys)=some es')
  (hS:fQ σ β I Wr wd w st) :
  Yields P ⟨dst,.buildSlice t len parts,type,pos,after,guard⟩ ρ w
   (g_ mn σ β I Wr wd w st (st.push (.row 0 sz es')) (.ls (.loc st.loc.length) 0 sz 0 len)):=by
 obtain⟨i,zv,hi,hzv,kI,hrep,hone⟩:=gX (σ:=σ) (I:=I) (w:=w) bA hz;have his:i.size=sz:=by unfold aZ at hm;rw[hi]at hm;simpa using hm
 obtain⟨z1,z2⟩:=nS (σ:=σ) (I:=I) (w:=w) (len:=len) kI hzl hsz hrep hone hg;obtain⟨cells',f1,f2⟩:=Eu (parts:=parts.toList.map fun p=>(p.1,ρ p.2)) (ys:=ys) (es':=es') (cells:=(Array.range (len*sz)).map (zv.cells[· % zv.cells.size]!)) z1 (by simpa using hpl)
  (fun i p y hi hy=>by
   simp only[Qb1,Qf1]at hi;obtain⟨q,hq,rfl⟩:=hi;exact hp i q y hq hy) (by simpa[Q2,Xp0] using hf)
 have hel:es'.length=len:=by
  have:∀ (ps:List (Nat × D)) (es es':List D),m_ es ps=some es'->es'.length=es.length:=by
   intro ps
   induction ps with
   | nil=>intro es es' h;simp[m_]at h;subst h;rfl
   | cons p ps ih =>
    intro es es' h;obtain⟨a,b⟩:=p;simp only[m_]at h;split at h
    ·rw[ih _ _ h,Xg0]
    ·simp at h
  rw[this _ _ _ hf,Q61]
 have hmul:len*sz<=1000*1000:=Q22 hlen afr;have hbig:¬ (2 ^ 24<len*sz):=ae;have hrun:(Instr.buildSlice t len (parts.map fun(i,x)=>(i,ρ x))).run P w=.ok (.slice (some ⟨w.heap.size,0,none⟩) len len) (w.alloc (.cells cells' e)):=by
  by_cases hl0:len*sz=0
  ·have hc0:(Array.range (len*sz)).map (zv.cells[· % zv.cells.size]!)=#[]:=by rw[hl0,Array.range_zero'];simp
   rw[hc0]at f1;simp[Instr.buildSlice,run_underlying ht,run_sizeOf hm,hl0,f1,newRow,Array.range_zero']
  ·simp[Instr.buildSlice,run_underlying ht,run_sizeOf hm,hl0,hbig,zeroValue,typeInfo,hi,hzv,f1,newRow]
 obtain⟨k1,k2⟩:=hS.push cells' e (.row 0 sz es') 0 len (.inr ⟨sz,es',rfl,hsz,ae,f2.wide,f2.one,by rw[<-Xd1,f2.len,hel],fun i e j d he hd=>by
  obtain⟨x,hx,hr⟩:=f2.rep i e j d he hd;exact⟨x,by rw[<-Qt0];exact hx,hr⟩⟩)
 refine aB (x:=.slice (some ⟨w.heap.size,0,none⟩) len len) (w':=w.alloc (.cells cells' e)) ?_ ⟨_,I,k1,by rw[St.oG];exact k2,?_,nQ⟩
 ·simp only[execOp,Sem.run_bind,hrun,Result.andThen_ok];rfl
 ·have:=aI.ls (σ:=σ) (β:=β.put (st.base++st.loc).length 0 (w.heap.size,0,len)) (I:=I) (w:=w.alloc (.cells cells' e)) (n:=st.base.length)
   (p:=.loc st.loc.length) (av:=0) (sz:=sz) (off:=0) (len:=len) (o:=0) (by simp only[Ref.abs,Qb0];exact Map.dQ _ _ _ _) ae aC
  simpa using this
theorem ait {t e:TypeId}{sz len:Nat}{g:Bool}{parts:Array (Nat × Operand)}{z:List D}{cx:Cx}{ys es':List D}(bA:∀ f g,cx.gid f=some g->σ g=some f)(ht:P.underlying t=some (.slice e))(hm:aZ P e=some sz)
  (hz:kg cx P e=some z) (hsz:0<sz) (hzl:z.length=sz) (hg:¬ (g=false/\sz≠1)) (hlen:len<=1000) (afr:sz<=1000) (hpl:parts.toList.length=ys.length)
  (hp:∀ (i:Nat) (p:Nat × Operand) (y:D),parts.toList[i]?=some p->ys[i]?=some y->y.cells.length=sz/\(∀ c ∈ y.cells,c.one=true)/\bE σ I w y (ρ p.2))
  (hf:m_ (List.replicate len (if g then .a (z.map D.di) else(z.map D.di).headD (.t []))) ((parts.toList.map (·.1)).zip ys)=some es')
  (hS:fQ σ β I Wr wd w st) :
  Yields P ⟨dst,.buildSlice t len parts,type,pos,after,guard⟩ ρ w
   (if len=0 then g_ mn σ β I Wr wd w st (st.push (.row 0 sz [])) (.ls (.loc st.loc.length) 0 sz 0 0) else g_ mn σ β I Wr wd w st st (.d (.s sz es'))):=by
 obtain⟨i,zv,hi,hzv,kI,hrep,hone⟩:=gX (σ:=σ) (I:=I) (w:=w) bA hz;have his:i.size=sz:=by unfold aZ at hm;rw[hi]at hm;simpa using hm
 obtain⟨z1,z2⟩:=nS (σ:=σ) (I:=I) (w:=w) (len:=len) kI hzl hsz hrep hone hg;obtain⟨cells',f1,f2⟩:=Eu (parts:=parts.toList.map fun p=>(p.1,ρ p.2)) (ys:=ys) (es':=es') (cells:=(Array.range (len*sz)).map (zv.cells[· % zv.cells.size]!)) z1 (by simpa using hpl)
  (fun i p y hi hy=>by
   simp only[Qb1,Qf1]at hi;obtain⟨q,hq,rfl⟩:=hi;exact hp i q y hq hy) (by simpa[Q2,Xp0] using hf)
 have hel:es'.length=len:=by
  have:∀ (ps:List (Nat × D)) (es es':List D),m_ es ps=some es'->es'.length=es.length:=by
   intro ps
   induction ps with
   | nil=>intro es es' h;simp[m_]at h;subst h;rfl
   | cons p ps ih =>
    intro es es' h;obtain⟨a,b⟩:=p;simp only[m_]at h;split at h
    ·rw[ih _ _ h,Xg0]
    ·simp at h
  rw[this _ _ _ hf,Q61]
 have hmul:len*sz<=1000*1000:=Q22 hlen afr;have hbig:¬ (2 ^ 24<len*sz):=ae;have hrun:(Instr.buildSlice t len (parts.map fun(i,x)=>(i,ρ x))).run P w=.ok (.slice (some ⟨w.heap.size,0,none⟩) len len) (w.alloc (.cells cells' e)):=by
  by_cases hl0:len*sz=0
  ·have hc0:(Array.range (len*sz)).map (zv.cells[· % zv.cells.size]!)=#[]:=by rw[hl0,Array.range_zero'];simp
   rw[hc0]at f1;simp[Instr.buildSlice,run_underlying ht,run_sizeOf hm,hl0,f1,newRow,Array.range_zero']
  ·simp[Instr.buildSlice,run_underlying ht,run_sizeOf hm,hl0,hbig,zeroValue,typeInfo,hi,hzv,f1,newRow]
 by_cases hl:len=0
 ·subst hl;have hes:es'=[]:=Qo1 hel;subst hes;have hcz:cells'.toList=[]:=Qo1 (by rw[f2.len];simp);simp only[if_true];obtain⟨k1,k2⟩:=hS.push cells' e (.row 0 sz []) 0 0 (.inr ⟨sz,[],rfl,hsz,Qd2 _,aC,aC,by rw[<-Xd1,hcz];simp,fun i e j d he=>by simp at he⟩);refine aB (x:=.slice (some ⟨w.heap.size,0,none⟩) 0 0) (w':=w.alloc (.cells cells' e)) ?_ ⟨_,I,k1,by rw[St.oG];exact k2,?_,nQ⟩
  ·simp only[execOp,Sem.run_bind,hrun,Result.andThen_ok];rfl
  ·have:=aI.ls (σ:=σ) (β:=β.put (st.base++st.loc).length 0 (w.heap.size,0,0)) (I:=I) (w:=w.alloc (.cells cells' e)) (n:=st.base.length)
    (p:=.loc st.loc.length) (av:=0) (sz:=sz) (off:=0) (len:=0) (o:=0) (by simp only[Ref.abs,Qb0];exact Map.dQ _ _ _ _) ae aC
   simpa using this
 ·rw[if_neg hl]
  -- the new block is data at once
  have hI:∀ b,I b->(w.alloc (.cells cells' e)).heap[b]?=w.heap[b]?:=fun b hb=>alloc_old _ _ (hS.mf b hb)
  have Yo:=hS.grow (w':=w.alloc (.cells cells' e)) aC (fun b hb=>alloc_old _ _ hb)
  let I':Nat->Prop:=fun b=>I b\/b=w.heap.size
  have hmono:∀ b,I b->I' b:=fun b hb=>.inl hb
  have hS':bf σ st.base.length β I' Wr wd (st.base++st.loc) (w.alloc (.cells cells' e)):=by
   refine⟨?_,Yo.blt,Yo.kG,Yo.dom,Yo.mO,?_,?_,?_,?_,Yo.inj,?_⟩
   ·rintro b (hb|rfl)
    ·exact Yo.mf b hb
    ·simp
   ·intro k o b bo cap h1 h2;obtain⟨a1,a2⟩:=Yo.wr k o b bo cap h1 h2;refine⟨a1,?_⟩;rintro(hb|rfl)
    ·exact a2 hb
    ·have:=ky hS h2;omega
   ·intro k cs b bo cap h1 h2;obtain⟨a0,c,e',a1,a2,a3⟩:=Yo.box k cs b bo cap h1 h2;exact⟨a0,c,e',a1,a2,fun j f x e1 e2=>(a3 j f x e1 e2).mono (fun _ _ _ h=>h) hmono (fun _ _=>rfl)⟩
   ·intro k av fE es b bo cap h1 h2;obtain⟨a0,c,e',a1,a2⟩:=Yo.row k av fE es b bo cap h1 h2;exact⟨a0.mono hmono (fun _ _=>rfl) rfl,c,e',a1,a2⟩
   ·intro k av fE es b bo cap h1 h2;obtain⟨a0,a1⟩:=Yo.h_ k av fE es b bo cap h1 h2;exact⟨a0.mono hmono (fun _ _=>rfl) rfl,.inl a1⟩
   ·intro k es b bo cap h1 h2;obtain⟨ms,clock,a1,a2⟩:=Yo.map k es b bo cap h1 h2;exact⟨ms,clock,a1,a2.mono hmono (fun _ _=>rfl)⟩
  have Ol:Ext mn β β I I' Wr w (w.alloc (.cells cells' e)) :=
   ⟨fun _ _ _ h=>h,hmono,fun b hb=>hb.elim .inl (fun e=>.inr (e ▸ hS.kG _ (Qd2 _))),aC,hI,fun b hb _=>alloc_old _ _ hb,rfl,rfl,rfl,fun _=>Qd2 _⟩
  refine aB (x:=.slice (some ⟨w.heap.size,0,none⟩) len len) (w':=w.alloc (.cells cells' e)) ?_ ⟨β,I',Ol,hS',.d ?_,fun _ _ _ _=>rfl⟩
  ·simp only[execOp,Sem.run_bind,hrun,Result.andThen_ok];rfl
  ·have acZ:∀ (i:Nat) (e':D) (j:Nat) (c:D),es'[i]?=some e'->e'.cells[j]?=some c->∃ x,(w.alloc (.cells cells' e)).cell? ⟨w.heap.size,0+i*sz+j,none⟩=some x/\bE σ I' (w.alloc (.cells cells' e)) c x:=by
    intro i e' j c h1 h2;obtain⟨x,g1,g2⟩:=f2.rep i e' j c h1 h2;refine⟨x,?_,g2.mono hmono hI⟩;rw[World.cell?_alloc_new,Qz2,<-Qt0];exact g1
   have:=bE.s (σ:=σ) (I:=I') (w:=w.alloc (.cells cells' e)) (sz:=sz) (es:=es') (b:=w.heap.size) (off:=0) (cap:=len)
    (fun i j=>((w.alloc (.cells cells' e)).cell? ⟨w.heap.size,0+i*sz+j,none⟩).getD undef) (.inr rfl) ae f2.wide f2.one
    (fun i e' j c h1 h2=>by obtain⟨x,g1,_⟩:=acZ i e' j c h1 h2;simp only[g1,Q12])
    (fun i e' j c h1 h2=>by obtain⟨x,g1,g2⟩:=acZ i e' j c h1 h2;simp only[g1,Q12];exact g2)
   rw[hel]at this;exact this
end ops
end
section
variable {mn:Prop}
theorem yo {α β:Type}{P:Program}{w:World}{f:α->Sem β}{h:α->β}:∀ (l:List α),(∀ a ∈ l,(f a).run P w=.ok (h a) w)->(l.mapM f).run P w=.ok (l.map h) w
 | [],_=>by simp
 | a::l,H=>by
  have ih:=yo l (fun b hb=>H b (by simp[hb]));simp[List.mapM_cons,H a aC,ih]
theorem Fu {α β:Type}{P:Program}{w:World}{f:α->Sem β}{h:α->β}(a:Array α)(H:∀ x ∈ a.toList,(f x).run P w=.ok (h x) w):(a.mapM f).run P w=.ok (a.map h) w:=by
 have h1:=yo (P:=P) (w:=w) a.toList H;have h2:a.mapM f=Functor.map List.toArray (a.toList.mapM f):=by
  rw[<-List.mapM_toArray]
 rw[h2,Sem.run_map,h1];simp only[Result.andThen_ok]
 congr 1
 apply Q40;simp
section ops
variable {P:Program} {σ:Nat->Option FuncId} {β:Map} {I Wr:Nat->Prop} {wd:Nat->Prop} {w:World} {st:St} {ρ:Operand->Value}
variable {dst:Option Tmp} {type:TypeId} {pos:String} {after:Array Edge} {guard:Option (Nat × Bool)}
def gW (σ:Nat->Option FuncId)(β:Map)(I:Nat->Prop)(w:World)(n:Nat)(cs:List FV)(vs:List Value):Prop :=
 vs.length=cs.length/\∀ (i:Nat) (c:FV) (x:Value),cs[i]?=some c->vs[i]?=some x->aI σ β I w n c x
theorem gW.splice {n off:Nat}{cs:List FV}{vs:List Value}{ds:List FV}{us:List Value}(h:gW σ β I w n cs vs)(k:gW σ β I w n ds us)(hle:off+ds.length<=cs.length) :
  gW σ β I w n (splice cs off ds) (splice vs off us):=by
 obtain⟨h1,h2⟩:=h;obtain⟨k1,k2⟩:=k;refine⟨by rw[length_splice _ _ _ ae,length_splice _ _ _ hle,h1],fun i c x hc hx => ?_⟩;rw[bR _ _ _ hle]at hc;rw[bR _ _ _ ae,k1]at hx
 by_cases a:i<off
 ·rw[if_pos a]at hc hx;exact h2 i c x hc hx
 ·rw[if_neg a]at hc hx
  by_cases b:i<off+ds.length
  ·rw[if_pos b]at hc hx;exact k2 _ c x hc hx
  ·rw[if_neg b]at hc hx;exact h2 i c x hc hx
theorem Ev {n:Nat}{place:Nat->Option (Nat × Nat)}:∀ {parts:List (Nat × Value)} {os:List (Nat × Nat × FV)} {cs cs':List FV} {cells:Array Value},gW σ β I w n cs cells.toList->parts.length=os.length ->
  (∀ (i:Nat) (p:Nat × Value) (o:Nat × Nat × FV),parts[i]?=some p->os[i]?=some o->place p.1=some (o.1,o.2.1)/\aI σ β I w n o.2.2 p.2) ->
  BN cs os=some cs'->∃ cells',Instr.fill place cells parts=some cells'/\gW σ β I w n cs' cells'.toList
 | [],os,cs,cs',cells,hC,hl,_,h=>by
  have:os=[]:=by cases os<;>simp_all
  subst this;simp[BN]at h;subst h;exact⟨cells,rfl,hC⟩
 | (i,v)::parts,[],cs,cs',cells,hC,hl,hp,h=>by simp at hl
 | (i,v)::parts,(off,size,x)::os,cs,cs',cells,hC,hl,hp,h=>by
  simp only[BN]at h;split at h
  ·rename_i hh;obtain⟨a1,a2,a3⟩:=hh;obtain⟨b1,b2⟩:=hp 0 (i,v) (off,size,x) rfl rfl;obtain⟨c1,c2,c3⟩:=b2.cells a3;have c1':v.cells.size=x.cells.length:=c1;have b1':place i=some (off,size):=b1;have a1':x.cells.length=size:=a1;have a2':off+size<=cs.length:=a2;have hcl:cells.size=cs.length:=by simpa using hC.1
   have hst:=GI place cells i v parts b1' ae ae;obtain⟨cells',d1,d2⟩:=Ev (cells:=(Fi.splice cells.toList off v.cells.toList).toArray) (parts:=parts) (os:=os)
    (by simpa using hC.splice (ds:=x.cells) (us:=v.cells.toList) ⟨by simpa using c1',fun j c y hc hy=>c2 j c y hc (by simpa using hy)⟩ ae) (by simpa using hl)
    (fun k p z hk hz=>hp (k+1) p z (by simpa using hk) (by simpa using hz)) h
   exact⟨cells',by rw[hst];exact d1,d2⟩
  ·simp at h
theorem abY {t:TypeId}{parts:Array (Nat × Operand)}{z:List D}{cx:Cx}{place:Nat->Option (Nat × Nat)}{os:List (Nat × Nat × FV)}{cs':List FV}(bA:∀ f g,cx.gid f=some g->σ g=some f)(hz:kg cx P t=some z)
  (ht:(∃ fs,P.underlying t=some (.struct fs)/\(∀ f ∈ fs.toList,(aZ P f.type).isSome)/\place=fun i=>(fs[i]?).map fun f=>(f.offset,(aZ P f.type).getD 0)) \/
   (∃ len e sz,P.underlying t=some (.array len e)/\aZ P e=some sz/\place=fun i=>some (i*sz,sz)))
  (hl:parts.toList.length=os.length)
  (hp:∀ (i:Nat) (p:Nat × Operand) (o:Nat × Nat × FV),parts.toList[i]?=some p->os[i]?=some o->place p.1=some (o.1,o.2.1)/\aI σ β I w st.base.length o.2.2 (ρ p.2))
  (hf:BN (z.map .d) os=some cs') (hS:fQ σ β I Wr wd w st) :
  Yields P ⟨dst,.build t parts,type,pos,after,guard⟩ ρ w (g_ mn σ β I Wr wd w st st (Qr cs')):=by
 obtain⟨i,zv,hi,hzv,kI,hrep,_⟩:=gX (σ:=σ) (I:=I) (w:=w) bA hz;obtain⟨cells',f1,f2⟩:=Ev (σ:=σ) (β:=β) (I:=I) (w:=w) (n:=st.base.length) (place:=place) (parts:=parts.toList.map fun p=>(p.1,ρ p.2)) (os:=os) (cells:=zv.cells)
  (cs:=z.map .d) ⟨by simp[kI],fun j c x hc hx=>by
   simp only[Qb1,Qf1]at hc;obtain⟨d,hd,rfl⟩:=hc;exact .d (hrep j d x hd (by simpa using hx))⟩ (by simpa using hl)
  (fun k p o hk ho=>by
   simp only[Qb1,Qf1]at hk;obtain⟨q,hq,rfl⟩:=hk;exact hp k q o hq ho) hf
 refine aB (x:=.agg cells') (w':=w) ?_ (Post.same hS (aI.Qr (by simpa using f2.1) (fun k c x hc hx=>f2.2 k c x hc (by simpa using hx))));rcases ht with ⟨fs,h1,h2,rfl⟩|⟨len,e,sz,h1,h2,rfl⟩
 ·have hm:=Fu (P:=P) (w:=w) (f:=fun f:Field=>(do pure (f.offset,<-Go.sizeOf f.type):Sem (Nat × Nat))) (h:=fun f:Field=>(f.offset,(aZ P f.type).getD 0)) fs (fun f hf=>by
   obtain⟨m,hm⟩:=Q62.1 (h2 f hf);simp[run_sizeOf hm,hm])
  have hfe:(fun i:Nat=>(fs.map fun f:Field=>(f.offset,(aZ P f.type).getD 0))[i]?)=(fun i:Nat=>(fs[i]?).map fun f:Field=>(f.offset,(aZ P f.type).getD 0)):=by
   funext i;simp
  simp only[execOp,Instr.build,Sem.run_bind,zeroValue,typeInfo,run_program,hi,hzv,Result.andThen_ok,Sem.run_pure,run_underlying h1,hm];rw[hfe];simp[f1]
 ·simp[execOp,Instr.build,zeroValue,typeInfo,hi,hzv,run_underlying h1,run_sizeOf h2,f1]
theorem vH (ρ:Operand->Value)(dst:Option Tmp)(type:TypeId)(pos:String)(after:Array Edge)(guard:Option (Nat × Bool))(b:Builtin)(t u:TypeId)(x y:Operand) :
  ∃ cs,execOp ρ ⟨dst,.call {callee:=.builtin b,args:=#[x,y],argTypes:=#[t,u]},type,pos,after,guard⟩=builtin b #[t,u] type cs #[ρ x,ρ y] :=
 ⟨_,by simp[execOp,resolve,invoke];rfl⟩
theorem o_ (ρ:Operand->Value)(dst:Option Tmp)(type:TypeId)(pos:String)(after:Array Edge)(guard:Option (Nat × Bool))(b:Builtin)(t:TypeId)(x:Operand) :
  ∃ cs,execOp ρ ⟨dst,.call {callee:=.builtin b,args:=#[x],argTypes:=#[t]},type,pos,after,guard⟩=builtin b #[t] type cs #[ρ x] :=
 ⟨_,by simp[execOp,resolve,invoke];rfl⟩
theorem tZ {t e:TypeId}{x:Operand}{a:Option Addr}{m c:Nat}(ht:P.underlying t=some (.slice e))(hx:ρ x=.slice a m c)(hS:fQ σ β I Wr wd w st) :
  Yields P ⟨dst,.call {callee:=.builtin .len,args:=#[x],argTypes:=#[t]},type,pos,after,guard⟩ ρ w (g_ mn σ β I Wr wd w st st (.d (.v (.int .i64 m)))):=by
 refine aB (x:=.int .i64 m) (w':=w) ?_ (Post.same hS (.Qi _));obtain⟨cs,hc⟩:=o_ ρ dst type pos after guard .len t x;rw[hc,hx];simp[builtin,Builtin.len_,run_underlying ht,goInt]
theorem SE {t e:TypeId}{x:Operand}{sz:Nat}(ht:P.underlying t=some (.slice e))(hx:aI σ β I w st.base.length (.d (.n sz)) (ρ x))(hS:fQ σ β I Wr wd w st) :
  Yields P ⟨dst,.call {callee:=.builtin .cap,args:=#[x],argTypes:=#[t]},type,pos,after,guard⟩ ρ w (g_ mn σ β I Wr wd w st st (.d (.v (.int .i64 0)))):=by
 refine aB (x:=.int .i64 0) (w':=w) ?_ (Post.same hS (.Qi _));obtain⟨cs,hc⟩:=o_ ρ dst type pos after guard .cap t x;rw[hc,oD hx];simp[builtin,Builtin.cap_,run_underlying ht,goInt]
theorem IU {t:TypeId}{x:Operand}{s:ByteArray}(ht:P.underlying t=some .string)(hx:ρ x=.string s)(hS:fQ σ β I Wr wd w st) :
  Yields P ⟨dst,.call {callee:=.builtin .len,args:=#[x],argTypes:=#[t]},type,pos,after,guard⟩ ρ w (g_ mn σ β I Wr wd w st st (.d (.v (.int .i64 s.size)))):=by
 refine aB (x:=.int .i64 s.size) (w':=w) ?_ (Post.same hS (.Qi _));obtain⟨cs,hc⟩:=o_ ρ dst type pos after guard .len t x;rw[hc,hx];simp[builtin,Builtin.len_,run_underlying ht,goInt]
theorem afs {t u:TypeId}{x y:Operand}{k k':IntKind}{a b:Int}(hS:fQ σ β I Wr wd w st)(hx:ρ x=.int k a)(hy:ρ y=.int k' b) :
  Yields P ⟨dst,.call {callee:=.builtin .max,args:=#[x,y],argTypes:=#[t,u]},type,pos,after,guard⟩ ρ w (g_ mn σ β I Wr wd w st st (.d (.v (.int k (if b > a then b else a))))):=by
 refine aB (x:=.int k (if b > a then b else a)) (w':=w) ?_ (Post.same hS (.Qi _));obtain⟨cs,hc⟩:=vH ρ dst type pos after guard .max t u x y;rw[hc,hx,hy];simp[builtin,Builtin.max_,Builtin.max2]
theorem aft {t u:TypeId}{x y:Operand}{k k':IntKind}{a b:Int}(hS:fQ σ β I Wr wd w st)(hx:ρ x=.int k a)(hy:ρ y=.int k' b) :
  Yields P ⟨dst,.call {callee:=.builtin .min,args:=#[x,y],argTypes:=#[t,u]},type,pos,after,guard⟩ ρ w (g_ mn σ β I Wr wd w st st (.d (.v (.int k (if b<a then b else a))))):=by
 refine aB (x:=.int k (if b<a then b else a)) (w':=w) ?_ (Post.same hS (.Qi _));obtain⟨cs,hc⟩:=vH ρ dst type pos after guard .min t u x y;rw[hc,hx,hy];simp[builtin,Builtin.min_,Builtin.min2]
def kZ (ρ:Operand->Value)(x:Option Operand)(dflt i:Int):Prop :=
 match x with
 | none=>i=dflt
 | some o=>∃ k,ρ o=.int k i
theorem run_sliceBound {k:IntKind}{i:Int}{y:Nat}{code:BoundsCode}(h0:0<=i)(h1:i<=y):(Instr.sliceBound (.int k i) y code).run P w=.ok i.toNat w:=by
 have c:0<=i/\i<=(y:Int):=⟨h0,h1⟩
 simp[Instr.sliceBound,lZ,c]
theorem rP {isSlice:Bool}{len cap:Nat}{lo hi:Option Operand}{l h:Int}(hl:kZ ρ lo 0 l)(hh:kZ ρ hi len h)(h0:0<=l)(h1:l<=h)(h2:h<=cap) :
  (Instr.sliceBounds isSlice len cap (lo.map ρ) (hi.map ρ) none).run P w=.ok (l.toNat,h.toNat,cap) w:=by
 have e1:∀ (k:IntKind) (code:BoundsCode),(Instr.sliceBound (.int k h) cap code).run P w=.ok h.toNat w:=fun k code=>run_sliceBound ae h2
 have e2:∀ (k:IntKind) (code:BoundsCode),(Instr.sliceBound (.int k l) h.toNat code).run P w=.ok l.toNat w:=fun k code=>run_sliceBound h0 ae
 cases hi with
 | none =>
  have hh':h=len:=hh;subst hh';cases lo with
  | none =>
   have hl':l=0:=hl;subst hl';simp[Instr.sliceBounds]
  | some o =>
   obtain⟨k,hk⟩:=hl;have e3:=fun code=>e2 k code
   simp only[Int.toNat_natCast]at e3;simp[Instr.sliceBounds,hk,e3]
 | some o' =>
  obtain⟨k',hk'⟩:=hh;cases lo with
  | none =>
   have hl':l=0:=hl;subst hl';simp[Instr.sliceBounds,hk',e1]
  | some o =>
   obtain⟨k,hk⟩:=hl;simp[Instr.sliceBounds,hk,hk',e1,e2]
theorem iD {t e:TypeId}{sz:Nat}{a:Option Addr}{len cap:Nat}{lo hi:Option Operand}{l h:Int}(ht:P.underlying t=some (.slice e))(hm:aZ P e=some sz)(hl:kZ ρ lo 0 l)(hh:kZ ρ hi len h)
  (h0:0<=l) (h1:l<=h) (h2:h<=cap) :
  (Instr.sliceAt t (.slice a len cap) (lo.map ρ) (hi.map ρ) none).run P w=.ok (.slice (if cap=l.toNat then a else a.map (·.add (l.toNat*sz))) (h.toNat-l.toNat) (cap-l.toNat)) w:=by
 simp[Instr.sliceAt,run_underlying ht,Instr.slice,rP hl hh h0 h1 h2,run_sizeOf hm]
theorem SF {t e:TypeId}{sz:Nat}{x:Operand}{lo hi:Option Operand}(ht:P.underlying t=some (.slice e))(hm:aZ P e=some sz)(hl:kZ ρ lo 0 0)(hh:kZ ρ hi 0 0)
  (hS:fQ σ β I Wr wd w st) (hx:aI σ β I w st.base.length (.d (.n sz)) (ρ x)) :
  Yields P ⟨dst,.slice t x lo hi none,type,pos,after,guard⟩ ρ w (g_ mn σ β I Wr wd w st st (.d (.n sz))):=by
 refine aB (x:=.slice none 0 0) (w':=w) ?_ (Post.same hS (.d (.n sz)));have:=iD (P:=P) (w:=w) (a:=none) (len:=0) (cap:=0) ht hm hl (by simpa using hh) (Xz1 0) (Xz1 0) aC;simp[execOp,oD hx,this]
theorem SG {t e:TypeId}{sz:Nat}{x:Operand}{lo hi:Option Operand}{es:List D}{l h:Int}(ht:P.underlying t=some (.slice e))(hm:aZ P e=some sz)(hl:kZ ρ lo 0 l)(hh:kZ ρ hi es.length h)
  (h0:0<=l) (h1:l<=h) (h2:h<=es.length) (hS:fQ σ β I Wr wd w st) (hx:aI σ β I w st.base.length (.d (.s sz es)) (ρ x)) :
  Yields P ⟨dst,.slice t x lo hi none,type,pos,after,guard⟩ ρ w (g_ mn σ β I Wr wd w st st (.d (.s sz ((es.drop l.toNat).take (h.toNat-l.toNat))))):=by
 generalize hρ:ρ x=xv at hx;cases hx with
 | d hx =>
  cases hx with
  | s0 =>
   have hl0:l=0:=by simp at h2;omega
   have hh0:h=0:=by simp at h2;omega
   subst hl0;subst hh0;have:=iD (P:=P) (w:=w) (a:=none) (len:=0) (cap:=0) ht hm hl (by simpa using hh) (Xz1 0) (Xz1 0) aC;refine aB (x:=.slice none 0 0) (w':=w) ?_ (Post.same hS (.d (by simpa using bE.s0 sz)));simp[execOp,hρ,this]
  | s1 _ a cap =>
   have hl0:l=0:=by simp at h2;omega
   have hh0:h=0:=by simp at h2;omega
   subst hl0;subst hh0;have hrun:=iD (P:=P) (w:=w) (a:=some a) (len:=0) (cap:=cap) ht hm hl (by simpa using hh) (Xz1 0) (Xz1 0) ae
   by_cases hcl:cap=0
   ·rw[if_pos (by simpa using hcl)]at hrun;refine aB (x:=.slice (some a) 0 cap) (w':=w) ?_ (Post.same hS (.d (by simpa using bE.s1 sz a cap)));simp[execOp,hρ,hrun]
   ·rw[if_neg (by simpa using hcl)]at hrun;refine aB (x:=.slice (some (a.add 0)) 0 cap) (w':=w) ?_ (Post.same hS (.d (by simpa using bE.s1 sz (a.add 0) cap)));simp[execOp,hρ,hrun]
  | s u hb hc hsz hone hcell hrep =>
   rename_i b off cap;have hrun:=iD (P:=P) (w:=w) (a:=some ⟨b,off,none⟩) (len:=es.length) (cap:=cap) ht hm hl hh h0 h1 ae;have hlen:((es.drop l.toNat).take (h.toNat-l.toNat)).length=h.toNat-l.toNat:=by simp;omega
   by_cases hcl:cap=l.toNat
   ·rw[if_pos hcl]at hrun;refine aB (x:=.slice (some ⟨b,off,none⟩) (h.toNat-l.toNat) (cap-l.toNat)) (w':=w) ?_ (Post.same hS (.d ?_))
    ·simp[execOp,hρ,hrun]
    ·have hz:(es.drop l.toNat).take (h.toNat-l.toNat)=[]:=Qo1 (by rw[hlen];omega);rw[hz];have:=bE.s (σ:=σ) (I:=I) (w:=w) (sz:=sz) (es:=[]) (b:=b) (off:=off) (cap:=cap-l.toNat) (fun _ _=>undef) hb aC aC aC (fun i e j c he=>by simp at he) (fun i e j c he=>by simp at he);rw[show h.toNat-l.toNat=0 by omega];exact this
   ·rw[if_neg hcl]at hrun;refine aB (x:=.slice (some ⟨b,off+l.toNat*sz,none⟩) (h.toNat-l.toNat) (cap-l.toNat)) (w':=w) ?_ (Post.same hS (.d ?_))
    ·simp only[execOp,hρ,X30,Sem.run_bind,hrun,Result.andThen_ok,Q11,ku];rfl
    ·have hget:∀ (i:Nat) (e:D),((es.drop l.toNat).take (h.toNat-l.toNat))[i]?=some e->es[l.toNat+i]?=some e:=by
      intro i e he;rw[Qp0]at he;split at he
      ·rw[Qx2]at he;exact he
      ·cases he
     have:=bE.s (σ:=σ) (I:=I) (w:=w) (sz:=sz) (es:=(es.drop l.toNat).take (h.toNat-l.toNat)) (b:=b) (off:=off+l.toNat*sz) (cap:=cap-l.toNat) (fun i j=>u (l.toNat+i) j) hb (by rw[hlen];omega)
      (fun e he=>hsz e (Q32 (Qn1 he))) (fun e he=>hone e (Q32 (Qn1 he)))
      (fun i e j c he hj=>by
       have:=hcell _ e j c (hget i e he) hj;rw[show off+l.toNat*sz+i*sz+j=off+(l.toNat+i)*sz+j by rw[Qq1];omega];exact this)
      (fun i e j c he hj=>hrep _ e j c (hget i e he) hj)
     rw[hlen]at this;exact this
theorem Ov {t e:TypeId}{sz av off m:Nat}{q:Ref}{x:Operand}{lo hi:Option Operand}{l h:Int}(ht:P.underlying t=some (.slice e))(hm:aZ P e=some sz)(hl:kZ ρ lo 0 l)(hh:kZ ρ hi m h)
  (h0:0<=l) (h1:l<=h) (h2:h<=m) (hS:fQ σ β I Wr wd w st) (hx:aI σ β I w st.base.length (.ls q av sz off m) (ρ x)) :
  Yields P ⟨dst,.slice t x lo hi none,type,pos,after,guard⟩ ρ w (g_ mn σ β I Wr wd w st st (.ls q av sz (off+l.toNat) (h.toNat-l.toNat))):=by
 obtain⟨b,bo,cap,o,hβ,hlc,Jg,SC⟩:=zC hx;have hrun:=iD (P:=P) (w:=w) (a:=some ⟨b,o,none⟩) (len:=m) (cap:=cap-off) ht hm hl hh h0 h1 ae;rw[show cap-off-l.toNat=cap-(off+l.toNat) by omega]at hrun
 by_cases hcl:cap-off=l.toNat
 ·rw[if_pos hcl]at hrun;refine aB (x:=.slice (some ⟨b,o,none⟩) (h.toNat-l.toNat) (cap-(off+l.toNat))) (w':=w) ?_ (Post.same hS (.ls hβ ae (fun hh=>by omega)));simp[execOp,SC,hrun]
 ·rw[if_neg hcl]at hrun;refine aB (x:=.slice (some ⟨b,o+l.toNat*sz,none⟩) (h.toNat-l.toNat) (cap-(off+l.toNat))) (w':=w) ?_ (Post.same hS (.ls hβ ae (fun hh=>by rw[Jg ae,Qq1];omega)));simp only[execOp,SC,X30,Sem.run_bind,hrun,Result.andThen_ok,Q11,ku];rfl
theorem Yp {t:TypeId}{s:ByteArray}{x:Operand}{lo hi:Option Operand}{l h:Int}(ht:P.underlying t=some .string)(hl:kZ ρ lo 0 l)(hh:kZ ρ hi s.size h)
  (h0:0<=l) (h1:l<=h) (h2:h<=s.size) (hS:fQ σ β I Wr wd w st) (hx:aI σ β I w st.base.length (.d (.v (.string s))) (ρ x)) :
  Yields P ⟨dst,.slice t x lo hi none,type,pos,after,guard⟩ ρ w (g_ mn σ β I Wr wd w st st (.d (.v (.string (s.extract l.toNat h.toNat))))):=by
 refine aB (x:=.string (s.extract l.toNat h.toNat)) (w':=w) ?_ (Post.same hS (.Qi _));simp[execOp,hx.val,Instr.sliceAt,run_underlying ht,Instr.slice,rP hl hh h0 h1 h2]
theorem zP {t e:TypeId}(ht:P.underlying t=some (.slice e))(a:Option Addr)(l c:Nat)(d:Nat)(w:World):(Op.equalIn (d+1) t (.slice a l c) (.slice none 0 0)).run P w=.ok a.isNone w:=by
 cases a<;>simp[Op.equalIn,run_underlying ht]
theorem zQ {t:TypeId}{ms:Array (String × TypeId)}(ht:P.underlying t=some (.interface ms))(v:Value)(r:Bool)(hv:(v=.nilIface/\r=true)\/(∃ k y,v=.iface k y/\r=false))(d:Nat)(w:World) :
  (Op.equalIn (d+1) t v .nilIface).run P w=.ok r w:=by
 rcases hv with ⟨rfl,rfl⟩|⟨k,y,rfl,rfl⟩<;>simp[Op.equalIn,run_underlying ht]
theorem t_ {neg:Bool}{op:BinOp}(hop:op=if neg then .neq else .eql)(u_:∀ v,ρ (.const v)=v){xt yt e:TypeId}{x:Operand}{a:Option Addr}{l c:Nat}(ht:P.underlying xt=some (.slice e))(hx:ρ x=.slice a l c)
  (hS:fQ σ β I Wr wd w st) :
  Yields P ⟨dst,.binOp op xt x (.const (.slice none 0 0)) yt,type,pos,after,guard⟩ ρ w (g_ mn σ β I Wr wd w st st (.d (.v (.bool (if neg then !a.isNone else a.isNone))))):=by
 subst hop;have hq:(Op.equal xt (.slice a l c) (.slice none 0 0)).run P w=.ok a.isNone w:=zP ht a l c 9999 w;have e1:binOp .eql xt (.slice a l c) (.slice none 0 0)=(do pure (.bool (<- Op.equal xt (.slice a l c) (.slice none 0 0)))):=rfl;have e2:binOp .neq xt (.slice a l c) (.slice none 0 0)=(do pure (.bool (!(<- Op.equal xt (.slice a l c) (.slice none 0 0))))):=rfl;refine aB (x:=.bool (if neg then !a.isNone else a.isNone)) (w':=w) ?_ (Post.same hS (.Qi _));cases neg
 ·simp only[execOp,hx,u_,eqGuard_at_slice,Qh1,if_false,e1];simp[hq]
 ·simp only[execOp,hx,u_,eqGuard_at_slice,if_true,e2];simp[hq]
theorem AP {neg:Bool}{op:BinOp}(hop:op=if neg then .neq else .eql)(u_:∀ v,ρ (.const v)=v){xt yt:TypeId}{ms:Array (String × TypeId)}{x:Operand}{v:Value}{r:Bool}(ht:P.underlying xt=some (.interface ms))(hx:ρ x=v)
  (hv:(v=.nilIface/\r=true)\/(∃ k y,v=.iface k y/\r=false)) (hS:fQ σ β I Wr wd w st) :
  Yields P ⟨dst,.binOp op xt x (.const .nilIface) yt,type,pos,after,guard⟩ ρ w (g_ mn σ β I Wr wd w st st (.d (.v (.bool (if neg then !r else r))))):=by
 subst hop;have hq:(Op.equal xt v .nilIface).run P w=.ok r w:=zQ ht v r hv 9999 w;have hgd:∀ op,eqGuard op xt x (.const .nilIface) v .nilIface=pure ():=by
  intro op;rcases hv with ⟨rfl,_⟩|⟨k,y,rfl,_⟩
  ·exact eqGuard_nil_constR _ _ _ _
  ·exact eqGuard_at_iface _ _ _ _ _ _ _
 have e1:binOp .eql xt v .nilIface=(do pure (.bool (<- Op.equal xt v .nilIface))):=by rcases hv with ⟨rfl,_⟩|⟨k,y,rfl,_⟩<;>rfl
 have e2:binOp .neq xt v .nilIface=(do pure (.bool (!(<- Op.equal xt v .nilIface)))):=by rcases hv with ⟨rfl,_⟩|⟨k,y,rfl,_⟩<;>rfl
 refine aB (x:=.bool (if neg then !r else r)) (w':=w) ?_ (Post.same hS (.Qi _));cases neg
 ·simp only[execOp,hx,u_,hgd,Qh1,if_false,e1];simp[hq]
 ·simp only[execOp,hx,u_,hgd,if_true,e2];simp[hq]
theorem aiu {f:FuncId}{g:Nat}{first captured:Array Operand}{fs cs:List FV}(hg:σ g=some f)(h1:gW σ β I w st.base.length fs (first.map ρ).toList)(h2:gW σ β I w st.base.length cs (captured.map ρ).toList)
  (hS:fQ σ β I Wr wd w st) :
  Yields P ⟨dst,.makeFunc (.func f) first captured,type,pos,after,guard⟩ ρ w (g_ mn σ β I Wr wd w st st (if fs.isEmpty/\cs.isEmpty then .d (.fn g) else .f g fs cs)):=by
 refine aB (x:=.func (.func f) (first.map ρ) (captured.map ρ)) (w':=w) rfl (Post.same hS ?_);split
 ·rename_i hh;have e1:fs=[]:=by simpa using hh.1
  have e2:cs=[]:=by simpa using hh.2
  subst e1;subst e2;have a1:first.map ρ=#[]:=by have:=h1.1;simpa using this
  have a2:captured.map ρ=#[]:=by have:=h2.1;simpa using this
  rw[a1,a2];exact .d (.fn hg)
 ·exact .f hg (by simpa using h1.1) (by simpa using h2.1) (fun i c x hc hx=>h1.2 i c x hc (by rw[Qt0];exact hx)) (fun i c x hc hx=>h2.2 i c x hc (by rw[Qt0];exact hx))
end ops
end
section
variable {mn:Prop}
section aeq
variable {P:Program} {σ:Nat->Option FuncId} {β:Map} {I Wr:Nat->Prop} {wd:Nat->Prop} {w:World} {st:St} {n:Nat} {ρ:Operand->Value}
variable {dst:Option Tmp} {type:TypeId} {pos:String} {after:Array Edge} {guard:Option (Nat × Bool)}
theorem q8 {e:TypeId}(hg:kV P e=some false){xs:Array Value}{off:Nat}{v:Value}(hx:xs[off]?=some v)(w:World):(part e xs off).run P w=.ok v w:=by
 simp[part,qg hg,hx]
theorem oJ {x y:D}{p q:List D}{t:Bool}(h:dL (x::p) (y::q)=some t):∃ k a b r,x=.v (.int k a)/\y=.v (.int k b)/\dL p q=some r/\t=(a==b&&r):=by
 unfold dL at h;split at h
 ·rename_i e1 e2;cases e1
 ·rename_i k a r1 k' b s e1 e2;cases e1;cases e2;split at h
  ·rename_i hk;subst hk;split at h
   ·rename_i t' ht;cases h;exact⟨_,_,_,_,rfl,rfl,ht,rfl⟩
   ·cases h
  ·cases h
 ·cases h
theorem nT {e:TypeId}{k0:IntKind}(hu:P.underlying e=some (.int k0))(d:Nat){xs ys:Array Value}(w:World):∀ (p q:List D) (s:Nat) {t:Bool},dL p q=some t ->
  (∀ (i:Nat) (c:D),p[i]?=some c->∃ x,xs[s+i]?=some x/\bE σ I w c x)->(∀ (i:Nat) (c:D),q[i]?=some c->∃ x,ys[s+i]?=some x/\bE σ I w c x) ->
  (Op.eqItems (d+1) e 1 xs ys (List.range' s p.length)).run P w=.ok t w
 | [],[],s,t,h,_,_=>by
  simp[dL]at h;subst h;simp[Op.eqItems]
 | [],_::_,s,t,h,_,_=>by simp[dL]at h
 | _::_,[],s,t,h,_,_=>by simp[dL]at h
 | x::p,y::q,s,t,h,hp,hq=>by
  obtain⟨k,a,b,r,rfl,rfl,h1,rfl⟩:=oJ h;obtain⟨x1,g1,g2⟩:=hp 0 _ rfl;obtain⟨y1,g3,g4⟩:=hq 0 _ rfl;cases g2;cases g4;have hg:kV P e=some false:=by simp[kV,hu]
  have ih:=nT hu d (xs:=xs) (ys:=ys) w p q (s+1) h1 (fun i c hc=>by
   obtain⟨x,e1,e2⟩:=hp (i+1) c (by simpa using hc);exact⟨x,by rw[show s+1+i=s+(i+1) by omega];exact e1,e2⟩) (fun i c hc=>by
   obtain⟨x,e1,e2⟩:=hq (i+1) c (by simpa using hc);exact⟨x,by rw[show s+1+i=s+(i+1) by omega];exact e1,e2⟩)
  simp only[Qf2,List.range'_succ,Op.eqItems,Xy2,Sem.run_bind];rw[q8 hg (by simpa using g1)];simp only[Result.andThen_ok];rw[q8 hg (by simpa using g3)];simp only[Result.andThen_ok];rw[run_equalIn_int w d e k k0 a b hu];simp only[Result.andThen_ok];cases hab:(a==b)
  ·simp
  ·simpa using ih
theorem aiv {neg:Bool}{op:BinOp}(hop:op=if neg then .neq else .eql){xt yt e:TypeId}{x y:Operand}{p q:List D}{len:Nat}{k0:IntKind}{t:Bool}(ht:P.underlying xt=some (.array len e))(hu:P.underlying e=some (.int k0))(hs:aZ P e=some 1)
  (hq:P.eqGuardType P.depth xt=false) (hl:p.length=len) (hv:dL p q=some t) (hS:bf σ n β I Wr wd (st.base++st.loc) w)
  (hx:aI σ β I w n (.d (.a p)) (ρ x)) (hy:aI σ β I w n (.d (.a q)) (ρ y)) :
  Yields P ⟨dst,.binOp op xt x y yt,type,pos,after,guard⟩ ρ w (Post mn σ n (st.base++st.loc).length β I Wr wd w st (.d (.v (.bool (if neg then !t else t))))):=by
 refine aB (x:=.bool (if neg then !t else t)) (w':=w) ?_ (Post.same hS (.Qi _));generalize hxv:ρ x=xv at hx;generalize hyv:ρ y=yv at hy;cases hx with
 | d hx =>
  cases hx with
  | @a _ xs hxl hxr =>
   cases hy with
   | d hy =>
    cases hy with
    | @a _ ys hyl Ty =>
     obtain⟨i,hi,hi1⟩:∃ i,P.info? e=some i/\i.size=1:=by
      unfold aZ at hs;split at hs
      ·rename_i i hi;exact⟨i,hi,by simpa using hs⟩
      ·cases hs
     have hcell:P.cellsOf e=1:=by simp[Program.cellsOf,hi,hi1]
     have hrun:(Op.equalIn 10000 xt (.agg xs) (.agg ys)).run P w=.ok t w:=by
      rw[run_equalIn_array w 9999 xs ys ht hi,hcell,List.range_eq_range',<-hl];exact nT (σ:=σ) (I:=I) hu 9998 w p q 0 hv
       (fun i c hc=>by
        have:=(aT hc)
        exact⟨xs[i]'(by omega),by rw[Qz2,Qh0 ae],hxr i c _ hc (Qh0 ae)⟩)
       (fun i c hc=>by
        have:=(aT hc)
        exact⟨ys[i]'(by omega),by rw[Qz2,Qh0 ae],Ty i c _ hc (Qh0 ae)⟩)
     subst hop;cases neg
     ·simp only[execOp,hxv,hyv,Qh1,if_false,Sem.run_bind,run_eqGuard_agg w _ _ _ _ _ _ hq,Result.andThen_ok,run_eql_struct,hrun,Sem.run_pure]
     ·simp only[execOp,hxv,hyv,if_true,Sem.run_bind,run_eqGuard_agg w _ _ _ _ _ _ hq,Result.andThen_ok,run_neq_struct,hrun,Sem.run_pure]
end aeq
end
section
variable {mn:Prop}
section map
variable {P:Program} {σ:Nat->Option FuncId} {β:Map} {I Wr:Nat->Prop} {wd:Nat->Prop} {w:World} {st:St} {n:Nat} {ρ:Operand->Value} {H:List ah}
variable {dst:Option Tmp} {type:TypeId} {pos:String} {after:Array Edge} {guard:Option (Nat × Bool)}
theorem bf.abZ (h:bf σ n β I Wr wd H w) :
  let β':=β.put H.length 0 (w.heap.size,0,0)
  Ext mn β β' I I Wr w (w.alloc (.map #[] 0))/\bf σ n β' I Wr wd (H++[.map []]) (w.alloc (.map #[] 0)):=by
 intro β';have hdom:∀ k v' x,β k v'=some x->β' k v'=some x:=fun k v' x e=>by
  have:=h.dom k v' x e;exact(Map.iF _ _ _ _ ae).trans e
 have hI:∀ b,I b->(w.alloc (.map #[] 0)).heap[b]?=w.heap[b]?:=fun b hb=>alloc_old _ _ (h.mf b hb)
 have hget:∀ (k:Nat) (o':ah),(H++[.map []])[k]?=some o'->(k<H.length/\H[k]?=some o')\/(k=H.length/\o'=.map []):=by
  intro k o' hk;rcases Qg0 k H.length with hl|hl
  ·rw[Qa0 hl]at hk;exact .inl ⟨hl,hk⟩
  ·rw[Qc0 hl]at hk;rcases Q71 hl with he|he
   ·subst he;simp at hk;exact .inr ⟨rfl,hk.symm⟩
   ·have:k-H.length=(k-H.length-1)+1:=ae;rw[this]at hk;simp at hk
 have hother:∀ k v',k<H.length->β' k v'=β k v':=fun k v' hk=>Map.iF _ _ _ _ ae
 have hlive:∀ (k:Nat) (o':ah),k<H.length->o'.live β' k=o'.live β k:=fun k o' hk=>by cases o'<;>simp[ah.live,hother _ _ hk]
 have hlv:(ah.map []).live β' H.length=some (w.heap.size,0,0):=by simp[ah.live,β',Map.dQ]
 refine⟨⟨hdom,fun _ h=>h,fun _ h=>.inl h,aC,hI,fun b hb _=>alloc_old _ _ hb,rfl,rfl,rfl,fun _=>Qd2 _⟩,?_⟩;constructor
 ·exact fun b hb=>by have:=h.mf b hb;simp;omega
 ·intro k v b bo cap' hk;simp only[β',Map.put]at hk;split at hk
  ·cases hk;simp
  ·have:=h.blt _ _ _ _ _ hk;simp;omega
 ·exact fun b hb=>h.kG b (by simp at hb;omega)
 ·intro k v' x hk;simp only[β',Map.put]at hk;split at hk
  ·rename_i hh;simp[hh.1]
  ·have:=h.dom _ _ _ hk;simp;omega
 ·intro k av sz es v' x hk hb;rcases hget k _ hk with ⟨hl,hk2⟩|⟨rfl,hk2⟩
  ·rw[hother _ _ hl]at hb;exact h.mO k av sz es v' x hk2 hb
  ·cases hk2
 ·intro k o' b bo cap' hk hl;rcases hget k _ hk with ⟨hlt,hk2⟩|⟨rfl,rfl⟩
  ·rw[hlive _ _ hlt]at hl;exact h.wr k o' b bo cap' hk2 hl
  ·rw[hlv]at hl;cases hl;exact⟨fun _=>h.kG _ (Qd2 _),fun hI'=>by have:=h.mf _ hI';omega⟩
 ·intro k cs b bo cap' hk hb;rcases hget k _ hk with ⟨hlt,hk2⟩|⟨rfl,hk2⟩
  ·rw[hother _ _ hlt]at hb;obtain⟨a0,c',e',a1,a2,a3⟩:=h.box k cs b bo cap' hk2 hb;exact⟨a0,c',e',by rw[alloc_old _ _ (h.blt _ _ _ _ _ hb)];exact a1,a2,fun j f x e1 e2=>(a3 j f x e1 e2).mono hdom (fun _ e=>e) hI⟩
  ·cases hk2
 ·intro k av sz es b bo cap' hk hb;rcases hget k _ hk with ⟨hlt,hk2⟩|⟨rfl,hk2⟩
  ·rw[hother _ _ hlt]at hb;obtain⟨a0,c',e',a1,a2⟩:=h.row k av sz es b bo cap' hk2 hb;exact⟨a0.mono (fun _ e=>e) hI (alloc_old _ _ (h.blt _ _ _ _ _ hb)),c',e',by rw[alloc_old _ _ (h.blt _ _ _ _ _ hb)];exact a1,a2⟩
  ·cases hk2
 ·intro k av sz es b bo cap' hk hb;rcases hget k _ hk with ⟨hlt,hk2⟩|⟨rfl,hk2⟩
  ·rw[hother _ _ hlt]at hb;obtain⟨a0,a1⟩:=h.h_ k av sz es b bo cap' hk2 hb;exact⟨a0.mono (fun _ e=>e) hI (hI b a1),a1⟩
  ·cases hk2
 ·intro k k' o1 o2 b bo mV wF cap2 hk hk' hl hl';rcases hget k _ hk with ⟨hlt,hk2⟩|⟨e1,e2⟩<;>rcases hget k' _ hk' with ⟨hlt',hk3⟩|⟨e3,e4⟩
  ·rw[hlive _ _ hlt]at hl;rw[hlive _ _ hlt']at hl';exact h.inj k k' o1 o2 b bo mV wF cap2 hk2 hk3 hl hl'
  ·rw[hlive _ _ hlt]at hl;have:=ky h hl;rw[e3,e4,hlv]at hl';cases hl';omega
  ·rw[hlive _ _ hlt']at hl';have:=ky h hl';rw[e1,e2,hlv]at hl;cases hl;omega
  ·exact e1.trans e3.symm
 ·intro k es b bo cap' hk hb;rcases hget k _ hk with ⟨hlt,hk2⟩|⟨rfl,hk2⟩
  ·rw[hother _ _ hlt]at hb;obtain⟨ms,clock,a1,a2⟩:=h.map k es b bo cap' hk2 hb;exact⟨ms,clock,by rw[alloc_old _ _ (h.blt _ _ _ _ _ hb)];exact a1,a2.mono (fun _ e=>e) hI⟩
  ·cases hk2;simp only[β',Map.dQ,Qe0,Qm0]at hb;obtain⟨rfl,rfl,rfl⟩:=hb;exact⟨#[],0,pY _ _,⟨rfl,fun i e m h=>by simp at h,fun i e m h=>by simp at h,fun m hm=>by simp at hm,aC⟩⟩
theorem ab0 {t:TypeId}(hS:fQ σ β I Wr wd w st) :
  Yields P ⟨dst,.makeMap t none,type,pos,after,guard⟩ ρ w (g_ mn σ β I Wr wd w st (st.push (.map [])) (.m (.loc st.loc.length))):=by
 obtain⟨h1,h2⟩:=hS.abZ;refine aB (x:=.map (some w.heap.size)) (w':=w.alloc (.map #[] 0)) ?_ ⟨_,I,h1,by rw[St.oG];exact h2,.m (b:=w.heap.size) (bo:=0) (cap:=0) ?_,fun k u hk _=>Map.iF _ _ _ _ ae⟩
 ·simp[execOp,Instr.makeMap,newObj];rfl
 ·simp only[Ref.abs];rw[show st.base.length+st.loc.length=(st.base++st.loc).length by simp];exact Map.dQ _ _ _ _
theorem AQ:∀ {p q:List D},dL p q=some true->p=q/\∀ c ∈ p,∃ k a,c=.v (.int k a)
 | [],[],_=>⟨rfl,fun c h=>by simp at h⟩
 | [],_::_,h=>by simp[dL]at h
 | _::_,[],h=>by simp[dL]at h
 | x::p,y::q,h=>by
  obtain⟨k,a,b,r,rfl,rfl,h1,h2⟩:=oJ h;have h3:(a==b)=true/\r=true:=by simpa using h2.symm
  obtain⟨h4,h5⟩:=AQ (h3.2 ▸ h1);have:a=b:=by simpa using h3.1
  subst this;subst h4;refine⟨rfl,fun c hc => ?_⟩;rcases Qi1.1 hc with rfl|hc
  ·exact⟨k,a,rfl⟩
  ·exact h5 c hc
theorem uf:∀ {p q:List D} {t:Bool},dL p q=some t->∀ c ∈ p,∃ k a,c=.v (.int k a)
 | [],_,_,_=>fun c h=>by simp at h
 | _::_,[],_,h=>by simp[dL]at h
 | x::p,y::q,t,h=>by
  obtain⟨k,a,b,r,rfl,rfl,h1,h2⟩:=oJ h;intro c hc;rcases Qi1.1 hc with rfl|hc
  ·exact⟨k,a,rfl⟩
  ·exact uf h1 c hc
theorem SH {n:Nat}{a:D}(h:mr (n+2) a=true):∃ p,a=.a p/\p.length=n/\∃ t,dL p p=some t:=by
 cases a with
 | a p =>
  simp only[mr,Qd0,beq_iff_eq]at h;exact⟨p,rfl,h.1,Q62.1 h.2⟩
 | _=>simp[mr]at h
theorem SI {n:Nat}{a b:D}{t:Bool}(h:lM (n+2) a b=some t):∃ p q,a=.a p/\b=.a q/\p.length=n/\dL p q=some t:=by
 cases a with
 | a p =>
  cases b with
  | a q =>
   simp only[lM]at h;split at h
   ·exact⟨p,q,rfl,rfl,by assumption,h⟩
   ·cases h
  | _=>simp[lM]at h
 | _=>simp[lM]at h
theorem SK {a b:D}{t:Bool}(h:lM 0 a b=some t):∃ k x y,a=.v (.int k x)/\b=.v (.int k y)/\t=(x==y):=by
 unfold lM at h;split at h
 ·split at h
  ·rename_i hk;subst hk;simp only[Qe0]at h;exact⟨_,_,_,rfl,rfl,h.symm⟩
  ·cases h
 ·simp_all
 ·simp_all
 ·cases h
theorem SL {a b:D}{t:Bool}(h:lM 1 a b=some t):∃ x y,a=.v (.string x)/\b=.v (.string y)/\t=(x==y):=by
 unfold lM at h;split at h
 ·simp_all
 ·simp only[Qe0]at h;exact⟨_,_,rfl,rfl,h.symm⟩
 ·simp_all
 ·cases h
theorem Ew:∀ {p q:List D} {t:Bool},dL p q=some t->q.length=p.length
 | [],[],_,_=>rfl
 | [],_::_,_,h=>by simp[dL]at h
 | _::_,[],_,h=>by simp[dL]at h
 | _::p,_::q,_,h=>by
  obtain⟨_,_,_,_,_,_,h1,_⟩:=oJ h;simp[Ew h1]
theorem key_inj {kind:Nat}{a:D}(h:mr kind a=true){x y:Value}(hx:bE σ I w a x)(hy:bE σ I w a y):x=y:=by
 unfold mr at h;split at h
 ·cases hx;cases hy;rfl
 ·cases hx;cases hy;rfl
 ·rename_i n p;simp only[Qd0]at h;obtain⟨t,ht⟩:=Q62.1 h.2;have hp:=uf ht;cases hx with
  | @a _ xs hxl hxr =>
   cases hy with
   | @a _ ys hyl Ty =>
    congr 1
    apply Array.ext ae;intro i h1 h2;have hc:p[i]?=some (p[i]'(by omega)):=Qa1 ae;have e1:=hxr i _ _ hc (Qh0 h1);have e2:=Ty i _ _ hc (Qh0 h2);obtain⟨k,v,hkv⟩:=hp _ (Qa2 hc);rw[hkv]at e1 e2;generalize xs[i]=z1 at e1 ⊢;generalize ys[i]=z2 at e2 ⊢;cases e1;cases e2;rfl
 ·cases h
theorem Yq {kind:Nat}{a:D}(h:mr kind a=true){x:Value}(hx:bE σ I w a x)(n:Nat):Instr.sameBits (n+1) x x=true:=by
 unfold mr at h;split at h
 ·cases hx;simp[Instr.sameBits]
 ·cases hx;simp only[Instr.sameBits];exact(MapKept.bytes_beq _ _).2 rfl
 ·rename_i m p;simp only[Qd0]at h;obtain⟨t,ht⟩:=Q62.1 h.2;have hp:=uf ht;cases hx with
  | @a _ xs hxl hxr =>
   simp only[Instr.sameBits,beq_self_eq_true,Qs1,Qh2];intro⟨u,v⟩ huv;obtain⟨i,hi,he⟩:=Xd0 huv;simp only[List.getElem_zip,Qm0]at he;simp only[List.length_zip,Xd1,Nat.min_self]at hi;have hc:p[i]?=some (p[i]'(by omega)):=Qa1 ae;have e1:=hxr i _ _ hc (Qh0 hi);obtain⟨k,c,hkv⟩:=hp _ (Qa2 hc);rw[hkv]at e1;obtain⟨r1,r2⟩:=he;simp only[Array.getElem_toList]at r1 r2;rw[<-r1,<-r2];clear r1 r2 huv;generalize xs[i]=z at e1;cases e1;cases n<;>simp[Instr.sameBits]
 ·cases h
theorem Ow {kind:Nat}{a b:D}(h:lM kind a b=some true):a=b:=by
 unfold lM at h;split at h
 ·split at h
  ·rename_i hk;subst hk;simp at h;rw[h]
  ·cases h
 ·rename_i s s';simp only[Qe0]at h;rw[(MapKept.bytes_beq s s').1 h]
 ·split at h
  ·rw[(AQ h).1]
  ·cases h
 ·cases h
def q9 (kind:Nat)(k:D):List (D × D)->Option (Option Nat)
 | []=>some none
 | e::r=>match lM kind k e.1 with
  | some true=>some (some 0)
  | some false=>match q9 kind k r with
   | some (some i)=>some (some (i+1))
   | x=>x
  | none=>none
theorem GJ {kind:Nat}{k:D}:∀ {es:List (D × D)} {r:Option D},Ac kind k es=some r->(q9 kind k es=some none/\r=none)\/∃ i e,q9 kind k es=some (some i)/\es[i]?=some e/\r=some e.2
 | [],r,h=>by simp[Ac]at h;exact .inl ⟨rfl,h.symm⟩
 | e::es,r,h=>by
  simp only[Ac]at h;split at h
  ·rename_i hk;cases h;exact .inr ⟨0,e,by simp[q9,hk],rfl,rfl⟩
  ·rename_i hk;rcases GJ h with ⟨h1,h2⟩|⟨i,e',h1,h2,h3⟩
   ·exact .inl ⟨by simp[q9,hk,h1],h2⟩
   ·exact .inr ⟨i+1,e',by simp[q9,hk,h1],by simpa using h2,h3⟩
  ·cases h
theorem Lp {kind:Nat}{k x:D}:∀ {es es':List (D × D)},JW kind k x es=some es'->(q9 kind k es=some none/\es'=es++[(k,x)])\/∃ i e,q9 kind k es=some (some i)/\es[i]?=some e/\e.1=k/\es'=es.set i (k,x)
 | [],es',h=>by simp[JW]at h;exact .inl ⟨rfl,h.symm⟩
 | e::es,es',h=>by
  simp only[JW]at h;split at h
  ·rename_i hk;cases h;exact .inr ⟨0,e,by simp[q9,hk],rfl,(Ow hk).symm,rfl⟩
  ·rename_i hk;split at h
   ·rename_i s hs;cases h;rcases Lp hs with ⟨h1,h2⟩|⟨i,e',h1,h2,h3,h4⟩
    ·exact .inl ⟨by simp[q9,hk,h1],by simp[h2]⟩
    ·exact .inr ⟨i+1,e',by simp[q9,hk,h1],by simpa using h2,h3,by simp[h4]⟩
   ·cases h
  ·cases h
theorem rQ {kind:Nat}{kt:TypeId}(hT:Lh P kt=some kind){a:D}(ha:mr kind a=true){x:Value}(hx:bE σ I w a x)(em:Bool)(w':World):(Instr.checkKey em 10000 kt x).run P w'=.ok () w':=by
 unfold Lh at hT;split at hT
 ·rename_i k hu;cases hT;unfold Instr.checkKey;simp[run_underlying hu]
 ·rename_i hu;cases hT;unfold Instr.checkKey;simp[run_underlying hu]
 ·rename_i n e hu;split at hT
  ·rename_i k0 hue hse;cases hT;obtain⟨p,rfl,hpl,_⟩:=SH ha
   ·cases hx with
    | @a _ xs hxl hxr =>
     unfold Instr.checkKey;simp only[Sem.run_bind,run_underlying hu,Result.andThen_ok];simp only[Std.Legacy.Range.forIn_eq_forIn_range',Std.Legacy.Range.size,X21,Nat.add_one_sub_one,Xj2];have hg:kV P e=some false:=by simp[kV,hue]
     have each:∀ j ∈ List.range' 0 n,∃ v,xs[j]?=some v:=fun j hj=>by
      have:j<n:=by simpa using hj
      exact⟨_,Qh0 ae⟩
     generalize List.range' 0 n=is at each
     induction is with
     | nil=>simp
     | cons j is ih =>
      obtain⟨v,hv⟩:=each j aC;have p2:(Instr.checkKey em 9999 e v).run P w'=.ok () w':=by
       unfold Instr.checkKey;simp[run_underlying hue]
      simp only[List.forIn_cons,Sem.run_bind,run_sizeOf hse,Result.andThen_ok,Xy2,q8 hg hv,p2,Sem.run_pure];exact ih (fun y hy=>each y (by simp[hy]))
  ·cases hT
 ·cases hT
theorem kz {kind:Nat}{kt:TypeId}(hT:Lh P kt=some kind){a:D}(ha:mr kind a=true){x:Value}(hx:bE σ I w a x){es:List (D × D)}{ms:List MapEntry}(hl:ms.length=es.length)
  (hk:∀ (i:Nat) (e:D × D) (m:MapEntry),es[i]?=some e->ms[i]?=some m->bE σ I w e.1 m.key) {p:Option Nat} (hp:q9 kind a es=some p) :
  (Instr.findKey kt x ms).run P w=.ok (p.bind fun i=>(ms[i]?).map fun m=>(i,m.val)) w:=by
 have now:∀ d,P.underlying kt=some d->(∀ (b:D) (y:Value) (t:Bool),lM kind a b=some t->bE σ I w b y->Instr.sameNow d x y=some t) ->
   ∀ (es:List (D × D)) (ms:List MapEntry) (o:Nat) (p:Option Nat),ms.length=es.length->(∀ (i:Nat) (e:D × D) (m:MapEntry),es[i]?=some e->ms[i]?=some m->bE σ I w e.1 m.key)->q9 kind a es=some p ->
    Instr.findNow d x ms o=some (p.bind fun i=>(ms[i]?).map fun m=>(o+i,m.val)):=by
  intro d _ hs es
  induction es with
  | nil =>
   intro ms o p hl _ hp;simp[q9]at hp;subst hp;have:ms=[]:=by cases ms<;>simp_all
   subst this;rfl
  | cons e es ih =>
   intro ms o p hl hk hp
   match ms,hl with
   | m::ms,hl =>
    have h0:=hk 0 e m rfl rfl;simp only[q9]at hp;split at hp
    ·rename_i he;cases hp;simp[Instr.findNow,hs _ _ _ he h0]
    ·rename_i he;have hk':∀ (i:Nat) (e:D × D) (m:MapEntry),es[i]?=some e->ms[i]?=some m->bE σ I w e.1 m.key:=fun i e' m' g1 g2=>hk (i+1) e' m' (by simpa using g1) (by simpa using g2)
     split at hp
     ·rename_i i hi;cases hp;have:=ih ms (o+1) (some i) (by simpa using hl) hk' hi;simp only[Instr.findNow,hs _ _ _ he h0,this];simp[Qr0,Xp2 1 i]
     ·have hpn:p=none:=by
       cases p with
       | none=>rfl
       | some i=>rename_i hne;exact absurd hp (by intro h;exact hne i h)
      subst hpn;have:=ih ms (o+1) none (by simpa using hl) hk' hp;simp[Instr.findNow,hs _ _ _ he h0,this]
    ·cases hp
 unfold Lh at hT;split at hT
 ·rename_i k hu;cases hT;have:=now _ hu (fun b y t h hy=>by
   obtain⟨k',c,d,rfl,rfl,rfl⟩:=SK h;cases hx;cases hy;simp[Instr.sameNow]) es ms 0 p hl hk hp
  simp only[Qz2]at this;simp only[Instr.findKey,Sem.run_bind,run_underlying hu,Result.andThen_ok,this,Sem.run_pure]
 ·rename_i hu;cases hT;have:=now _ hu (fun b y t h hy=>by
   obtain⟨c,d,rfl,rfl,rfl⟩:=SL h;cases hx;cases hy;simp[Instr.sameNow]) es ms 0 p hl hk hp
  simp only[Qz2]at this;simp only[Instr.findKey,Sem.run_bind,run_underlying hu,Result.andThen_ok,this,Sem.run_pure]
 ·rename_i n e hu;split at hT
  ·rename_i k0 hue hse;cases hT;obtain⟨inf,hi,hi1⟩:∃ i,P.info? e=some i/\i.size=1:=by
    unfold aZ at hse;split at hse
    ·rename_i i hi;exact⟨i,hi,by simpa using hse⟩
    ·cases hse
   have hcell:P.cellsOf e=1:=by simp[Program.cellsOf,hi,hi1]
   have heq:∀ (b:D) (y:Value) (t:Bool),lM (n+2) a b=some t->bE σ I w b y->(Op.equal kt x y).run P w=.ok t w:=by
    intro b y t h hy;obtain⟨p,q,rfl,rfl,hpl,h⟩:=SI h;cases hx with
    | @a _ xs hxl hxr =>
     cases hy with
     | @a _ ys hyl Ty =>
      show(Op.equalIn 10000 kt (.agg xs) (.agg ys)).run P w=.ok t w;have hql:=Ew h;rw[run_equalIn_array w 9999 xs ys hu hi,hcell,List.range_eq_range',<-hpl];exact nT (σ:=σ) (I:=I) hue 9998 w p q 0 h
       (fun i c hc=>by
        have:=(aT hc)
        exact⟨xs[i]'(by omega),by rw[Qz2,Qh0 ae],hxr i c _ hc (Qh0 ae)⟩)
       (fun i c hc=>by
        have:=(aT hc)
        exact⟨ys[i]'(by omega),by rw[Qz2,Qh0 ae],Ty i c _ hc (Qh0 ae)⟩)
   have ask:∀ (es:List (D × D)) (ms:List MapEntry) (o:Nat) (p:Option Nat),ms.length=es.length->(∀ (i:Nat) (e:D × D) (m:MapEntry),es[i]?=some e->ms[i]?=some m->bE σ I w e.1 m.key)->q9 (n+2) a es=some p ->
     (Instr.findAsking kt x ms o).run P w=.ok (p.bind fun i=>(ms[i]?).map fun m=>(o+i,m.val)) w:=by
    intro es
    induction es with
    | nil =>
     intro ms o p hl _ hp;simp[q9]at hp;subst hp;have:ms=[]:=by cases ms<;>simp_all
     subst this;simp[Instr.findAsking]
    | cons e es ih =>
     intro ms o p hl hk hp
     match ms,hl with
     | m::ms,hl =>
      have h0:=hk 0 e m rfl rfl;simp only[q9]at hp;split at hp
      ·rename_i he;cases hp;simp[Instr.findAsking,heq _ _ _ he h0]
      ·rename_i he;have hk':∀ (i:Nat) (e:D × D) (m:MapEntry),es[i]?=some e->ms[i]?=some m->bE σ I w e.1 m.key:=fun i e' m' g1 g2=>hk (i+1) e' m' (by simpa using g1) (by simpa using g2)
       split at hp
       ·rename_i i hi;cases hp;have:=ih ms (o+1) (some i) (by simpa using hl) hk' hi;simp only[Instr.findAsking,Sem.run_bind,heq _ _ _ he h0,Result.andThen_ok,Qh1,if_false,this];simp[Qr0,Xp2 1 i]
       ·have hpn:p=none:=by
         cases p with
         | none=>rfl
         | some i=>rename_i hne;exact absurd hp (by intro h;exact hne i h)
        subst hpn;have:=ih ms (o+1) none (by simpa using hl) hk' hp;simp[Instr.findAsking,heq _ _ _ he h0,this]
      ·cases hp
   have aiw:=ask es ms 0 p hl hk hp;simp only[Qz2]at aiw
   match ms with
   | [] =>
    have:es=[]:=by cases es<;>simp_all
    subst this;simp[q9]at hp;subst hp;simp[Instr.findKey,run_underlying hu,Instr.findNow]
   | m::ms =>
    have hnn:Instr.findNow (.array n e) x (m::ms) 0=none:=by simp[Instr.findNow,Instr.sameNow]
    simp only[Instr.findKey,Sem.run_bind,run_underlying hu,Result.andThen_ok,hnn,aiw]
  ·cases hT
 ·cases hT
theorem SN {kind:Nat}{a:D}(h:mr kind a=true){x y:Value}(hx:bE σ I w a x)(hy:bE σ I w a y)(w':World):(Instr.keyThatStays y x).run P w'=.ok x w':=by
 rw[key_inj h hy hx];simp[Instr.keyThatStays,Yq h hx 9999]
theorem ug {cx:Cx}(bA:∀ f g,cx.gid f=some g->σ g=some f){hs:List Nat}{x:Value}{y:D}(h:IK cx hs x=some y):bE σ I w y x:=by
 unfold IK at h;split at h
 ·rename_i cs;split at h<;>simp at h;subst h;rename_i ds hds;obtain⟨g1,g2,_⟩:=qY (σ:=σ) (I:=I) (w:=w) bA hds;exact .a (by simpa using g1.symm) (fun i c x hc hx=>g2 i c x hc (by simpa using hx))
 ·exact AO bA h
theorem Ox {cx:Cx}(bA:∀ f g,cx.gid f=some g->σ g=some f){e:TypeId}{z:D}(h:zeroV cx P e=some z):∃ x,(∀ w',(zeroValue e).run P w'=.ok x w')/\bE σ I w z x:=by
 unfold zeroV at h;split at h
 ·rename_i i hi;split at h
  ·rename_i zv hz;exact⟨zv,fun w'=>by simp[zeroValue,typeInfo,hi,hz],ug bA h⟩
  ·cases h
 ·cases h
theorem oZ (hS:fQ σ β I Wr wd w st){q:Ref}{es:List (D × D)}(hq:st.heap q=some (.map es)){x:Value}(hx:aI σ β I w st.base.length (.m q) x) :
  ∃ b bo cap ms clock,x=.map (some b)/\β (q.abs st.base.length) 0=some (b,bo,cap)/\w.heap[b]?=some (.map ms clock)/\xQ σ I w es ms clock:=by
 cases hx with
 | @m _ b bo cap hb =>
  rw[St.fP]at hq;obtain⟨ms,clock,h1,h2⟩:=hS.map _ es b bo cap hq hb;exact⟨b,bo,cap,ms,clock,rfl,hb,h1,h2⟩
theorem Yr {t kt e:TypeId}{x ix:Operand}{ok:Bool}{kind:Nat}{z kd:D}{q:Ref}{es:List (D × D)}{r:Option D}{cx:Cx}(bA:∀ f g,cx.gid f=some g->σ g=some f)(ht:P.underlying t=some (.map kt e))(hT:Lh P kt=some kind)(hz:zeroV cx P e=some z)
  (hk:mr kind kd=true) (hq:st.heap q=some (.map es)) (hr:Ac kind kd es=some r) (hS:fQ σ β I Wr wd w st) (hx:aI σ β I w st.base.length (.m q) (ρ x)) (hi:aI σ β I w st.base.length (.d kd) (ρ ix)) :
  Yields P ⟨dst,.lookup t x ix ok,type,pos,after,guard⟩ ρ w (g_ mn σ β I Wr wd w st st
   (.d (match r with|some y=>(if ok then .t [y,.v (.bool true)] else y)|none=>(if ok then .t [z,.v (.bool false)] else z)))):=by
 obtain⟨b,bo,cap,ms,clock,hρ,hβ,hb,hM⟩:=oZ hS hq hx;cases hi with
 | d hi =>
  obtain⟨zv,hzr,hzR⟩:=Ox (σ:=σ) (I:=I) (w:=w) bA hz;have Yt:=rQ hT hk hi ms.isEmpty w;have pair:∀ (y:D) (v:Value) (c:Bool),bE σ I w y v->bE σ I w (if ok then .t [y,.v (.bool c)] else y) (if ok then .tuple #[v,.bool c] else v):=by
   intro y v c hy;cases ok
   ·exact hy
   ·refine .t rfl (fun i d u hd hu => ?_)
    match i with
    | 0=>simp at hd hu;subst hd;subst hu;exact hy
    | 1=>simp at hd hu;subst hd;subst hu;exact .v _
    | i+2=>simp at hd
  rcases GJ hr with ⟨h1,h2⟩|⟨i,en,h1,h2,h3⟩
  ·have hf:=kz (w:=w) hT hk hi (ms:=ms.toList) (by simpa using hM.len) (fun i e m g1 g2=>hM.key i e m g1 (by simpa using g2)) h1;subst h2;refine aB (x:=if ok then .tuple #[zv,.bool false] else zv) (w':=w) ?_ (Post.same hS (.d (pair _ _ _ hzR)));simp only[execOp,Instr.lookup,hρ,Sem.run_bind,run_underlying ht,Result.andThen_ok,MapKept.run_getObj_map hb,Sem.run_pure,Yt,hf,Option.bind_none,hzr]
  ·have hf:=kz (w:=w) hT hk hi (ms:=ms.toList) (by simpa using hM.len) (fun i e m g1 g2=>hM.key i e m g1 (by simpa using g2)) h1;subst h3;have hil:i<ms.size:=by rw[hM.len];exact(aT h2)
   have hm:ms.toList[i]?=some ms[i]:=by simp[hil]
   have hmv:=hM.val i en ms[i] h2 (by simp[hil]);refine aB (x:=if ok then .tuple #[ms[i].val,.bool true] else ms[i].val) (w':=w) ?_ (Post.same hS (.d (pair _ _ _ hmv)));simp only[execOp,Instr.lookup,hρ,Sem.run_bind,run_underlying ht,Result.andThen_ok,MapKept.run_getObj_map hb,Sem.run_pure,Yt,hf,Option.bind_some,hm,Q11]
theorem Ey {b b':Nat}(w:World)(o:Obj)(h:b'≠b):({w with heap:=w.heap.setIfInBounds b o}:World).heap[b']?=w.heap[b']?:=by
 show(w.heap.setIfInBounds b o)[b']?=_;simp[Ne.symm h]
theorem afu {t kt e:TypeId}{m x ix:Operand}{kind:Nat}{kd v:D}{q:Ref}{es es':List (D × D)}(ht:P.underlying t=some (.map kt e))(hT:Lh P kt=some kind)
  (hk:mr kind kd=true) (hq:st.heap q=some (.map es)) (hr:JW kind kd v es=some es') (hd:jm st.base.length (st.bq q (.map es')) wd) (hS:fQ σ β I Wr wd w st)
  (hm:aI σ β I w st.base.length (.m q) (ρ m)) (hi:aI σ β I w st.base.length (.d kd) (ρ ix)) (hx:aI σ β I w st.base.length (.d v) (ρ x)) :
  Yields P ⟨dst,.mapUpdate t m ix x,type,pos,after,guard⟩ ρ w (g_ mn σ β I Wr wd w st (st.bq q (.map es')) (.d (.t []))):=by
 obtain⟨b,bo,cap,ms,clock,hρ,hβ,hb,hM⟩:=oZ hS hq hm;have hblt:=hS.blt _ _ _ _ _ hβ;cases hi with
 | d hi =>
  cases hx with
  | d hx =>
   have Yt:=rQ hT hk hi false w;have hq':=hq;rw[St.fP]at hq';have key:∀ (o:Obj) (ms':Array MapEntry) (clock':Nat),o=.map ms' clock'->((∀ w',(∀ b',b'≠b->w'.heap[b']?=w.heap[b']?)->xQ σ I w' es' ms' clock'))->(Instr.mapUpdate t (.map (some b)) (ρ ix) (ρ x)).run P w=.ok () {w with heap:=w.heap.setIfInBounds b o} ->
     Yields P ⟨dst,.mapUpdate t m ix x,type,pos,after,guard⟩ ρ w (g_ mn σ β I Wr wd w st (st.bq q (.map es')) (.d (.t []))):=by
    intro o ms' clock' ho hat hrun;subst ho;obtain⟨k1,k2⟩:=hS.upd (hkw:=St.bK _ _ _ hd) (w':={w with heap:=w.heap.setIfInBounds b (.map ms' clock')}) hq' (show(ah.map es).live β _=some (b,bo,cap) from hβ) (.map es') 0 b bo cap
     aC (fun z _ hz=>Ey w _ hz) (.inl rfl) (by simpa using hblt) (fun z hz=>by rw[hβ]at hz;cases hz;rfl) rfl rfl rfl (fun _=>Qd2 _)
     (.inr (.inr ⟨es',ms',clock',rfl,rfl,by show(w.heap.setIfInBounds b _)[b]?=_;simp[hblt],hat _ (fun b' hb'=>Ey w _ hb')⟩))
    refine tV (w':={w with heap:=w.heap.setIfInBounds b (.map ms' clock')}) ?_ ⟨_,I,k1,by rw[St.dJ];exact k2,l5,kX (St.bK _ _ _ hd)⟩;simp only[execOp,hρ,Sem.run_bind,hrun,Result.andThen_ok,Sem.run_pure]
   have hnI:¬ I b:=(hS.wr _ _ _ _ _ hq' (show(ah.map es).live β _=some (b,bo,cap) from hβ)).2;have hrep:∀ {y:D} {u:Value} {w':World},bE σ I w y u->(∀ b',b'≠b->w'.heap[b']?=w.heap[b']?)->bE σ I w' y u:=fun h hw=>h.mono (fun _ h=>h) (fun b' hb'=>hw b' (fun e=>hnI (e ▸ hb')))
   rcases Lp hr with ⟨h1,h2⟩|⟨i,en,h1,h2,h3,h4⟩
   ·have hf:=kz (w:=w) hT hk hi (ms:=ms.toList) (by simpa using hM.len) (fun i e m g1 g2=>hM.key i e m g1 (by simpa using g2)) h1;subst h2;refine key _ (ms.push {key:=ρ ix,val:=ρ x,born:=clock}) (clock+1) rfl (fun w' hw=>⟨by simp[hM.len],?_,?_,?_,?_⟩) ?_
    ·intro j e' m' g1 g2;rcases Qg0 j es.length with hl|hl
     ·rw[Qa0 hl]at g1;rw[Array.getElem?_push_lt (by rw[hM.len];exact hl)]at g2;exact hrep (hM.key j e' m' g1 (by rw[Qh0 (by rw[hM.len];exact hl)];exact g2)) hw
     ·rw[Qc0 hl]at g1;have hj:j=es.length:=by
       have:=(aT g1)
       simp at this;omega
      subst hj;simp only[Xi0,Qw1,Qe0]at g1;rw[<-hM.len]at g2;simp at g2;subst g1;subst g2;exact hrep hi hw
    ·intro j e' m' g1 g2;rcases Qg0 j es.length with hl|hl
     ·rw[Qa0 hl]at g1;rw[Array.getElem?_push_lt (by rw[hM.len];exact hl)]at g2;exact hrep (hM.val j e' m' g1 (by rw[Qh0 (by rw[hM.len];exact hl)];exact g2)) hw
     ·rw[Qc0 hl]at g1;have hj:j=es.length:=by
       have:=(aT g1)
       simp at this;omega
      subst hj;simp only[Xi0,Qw1,Qe0]at g1;rw[<-hM.len]at g2;simp at g2;subst g1;subst g2;exact hrep hx hw
    ·intro m' hm';simp only[Array.toList_push,Qw0,Qx0]at hm';rcases hm' with hm'|rfl
     ·have:=hM.old m' hm';omega
     ·exact X10 _
    ·simp only[Array.toList_push,Qn0,Qe2,Qc2];refine List.nodup_append.2 ⟨hM.once,aC,?_⟩;intro a ha c hc;simp only[Qx0]at hc;subst hc;obtain⟨y,hy,rfl⟩:=Qg1.1 ha;exact Nat.ne_of_lt (hM.old y hy)
    ·simp only[Instr.mapUpdate,Sem.run_bind,run_underlying ht,Result.andThen_ok,MapKept.run_getObj_map hb,Yt,hf,Option.bind_none,MapKept.run_setObj_map _ hb]
   ·have hf:=kz (w:=w) hT hk hi (ms:=ms.toList) (by simpa using hM.len) (fun i e m g1 g2=>hM.key i e m g1 (by simpa using g2)) h1;subst h4;have hil:i<ms.size:=by rw[hM.len];exact(aT h2)
    have hm:ms.toList[i]?=some ms[i]:=by simp[hil]
    have hma:ms[i]?=some ms[i]:=by simp[hil]
    have hmk:=hM.key i en ms[i] h2 hma;rw[h3]at hmk;have hst:=SN (P:=P) hk hi hmk w;have hborn:(ms.modify i fun e=>{e with key:=ρ ix,val:=ρ x}).toList.map (·.born)=ms.toList.map (·.born):=by
     apply Xp1;intro j;simp only[Qb1,Qt0,Xa0]
     by_cases hij:i=j
     ·subst hij;cases he:ms[i]?<;>simp
     ·simp[hij]
    refine key _ (ms.modify i fun e=>{e with key:=ρ ix,val:=ρ x}) clock rfl (fun w' hw=>⟨by simp[hM.len],?_,?_,?_,by rw[hborn];exact hM.once⟩) ?_
    ·intro j e' m' g1 g2;rw[Xa0]at g2
     by_cases hij:i=j
     ·subst hij;rw[if_pos rfl,hma]at g2;simp only[Q11,Qe0]at g2;rw[Qd1 (by rw[<-hM.len];exact hil)]at g1;cases g1;subst g2;exact hrep hi hw
     ·rw[if_neg hij]at g2;rw[Qb2 hij]at g1;exact hrep (hM.key j e' m' g1 g2) hw
    ·intro j e' m' g1 g2;rw[Xa0]at g2
     by_cases hij:i=j
     ·subst hij;rw[if_pos rfl,hma]at g2;simp only[Q11,Qe0]at g2;rw[Qd1 (by rw[<-hM.len];exact hil)]at g1;cases g1;subst g2;exact hrep hx hw
     ·rw[if_neg hij]at g2;rw[Qb2 hij]at g1;exact hrep (hM.val j e' m' g1 g2) hw
    ·intro m' hm';have h5:m'.born ∈ (ms.modify i fun e=>{e with key:=ρ ix,val:=ρ x}).toList.map (·.born):=Qg1.2 ⟨m',hm',rfl⟩;rw[hborn]at h5;obtain⟨y,hy,h6⟩:=Qg1.1 h5;rw[<-h6];exact hM.old y hy
    ·simp only[Instr.mapUpdate,Sem.run_bind,run_underlying ht,Result.andThen_ok,MapKept.run_getObj_map hb,Yt,hf,Option.bind_some,hm,Q11,hma,Q12,hst,MapKept.run_setObj_map _ hb]
end map
end
end Fi
