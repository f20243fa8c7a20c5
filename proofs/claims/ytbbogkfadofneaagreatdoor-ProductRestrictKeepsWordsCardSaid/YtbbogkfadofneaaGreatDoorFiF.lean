import Derived.Test.YtbbogkfadofneaaGreatDoorFiE
import Derived.Below
import Derived.ChangeArms
import Derived.OpenShut
set_option linter.unusedVariables false
set_option linter.unusedSimpArgs false
namespace Fi
open Go Go.RowKit
theorem Es {mn:Prop}{I I':Nat->Prop}{w w':World}(h:Grow mn I I' w w'):Below w.heap.size w w':=⟨h.os,h.tape,h.output,h.size,h.keep⟩
theorem aax {P:Program}{E:Env}{σ:Nat->Option FuncId}(hm:P.follows .mixedOrders=true)(hB:Bodies P E σ)(hF:mU P E σ)(hP:iR P E σ){N g:Nat}{ds:List D}
  (h:cu E N g (ds.map .d) []=some (.d (.v (.bool true)),none)) {f:FuncId} (hσ:σ g=some f) {I:Nat->Prop} {w:World} {bz:Array Value} (hI:∀ b,I b->b<w.heap.size)
  (hl:bz.toList.length=ds.length) (hA:∀ (i:Nat) (d:D) (x:Value),ds[i]?=some d->bz.toList[i]?=some x->bD σ I w d x) (hG:dM E σ I w) :
  Calls P f bz w fun e w'=>e=.returned (.bool true)/\Below w.heap.size w w':=by
 refine(Fu hm hB hF hP h hσ hI ⟨by simpa using hl,fun i c x hc hx => ?_⟩ hG).mono fun e w' ⟨x,z,I',he,hz,hr,hg⟩ => ?_
 ·simp only[Qb2,Qf2]at hc;obtain⟨d,hd,rfl⟩:=hc;exact .d (hA i d x hd hx)
 ·cases hz;cases hr;exact⟨he,Es hg⟩
end Fi
namespace Fi
open Go
def yK (sz:Nat)(ds:List D):Option D :=
 match ds with
 | [.s eQ es]=>if eQ=sz/\es.length<=1000000 then some (.s sz es) else none
 | _=>none
theorem iL.env {P:Program}{E E':Env}{σ:Nat->Option FuncId}{g:Nat}{args:List FV}{v:FV}(h:iL P E σ g args [] (v,none))(hg:E'.d9=E.d9)(VM:E'.mn=E.mn):iL P E' σ g args [] (v,none):=by
 intro f hf β I w bz hS hA hG;have hG':dM E σ I w:=by
  intro j y hy;rw[<-hg]at hy;exact hG j y hy
 have:=h f hf β I w bz hS hA hG';rw[VM];exact this
theorem JN {P:Program}{E E':Env}{σ:Nat->Option FuncId}(hm:P.follows .mixedOrders=true)(hB:Bodies P E σ)(hF:mU P E σ)(hP:iR P E σ){N g sz:Nat}
  (hn:cu E N g [.d (.n sz)] []=some (.d (.s sz []),none)) (hz:cu E N g [.z sz] []=some (.d (.s sz []),none))
  (hs:∀ e es,(e::es).length<=1000000->cu E N g [.d (.s sz (e::es))] []=some (.d (.s sz (e::es)),none)) (hg:E'.d9=E.d9) (VM:E'.mn=E.mn)
  {args:List FV} {ds:List D} {v:D} (ha:jU args=some ds) (hv:yK sz ds=some v):iL P E' σ g args [] (.d v,none):=by
 unfold yK at hv;split at hv
 ·rename_i eQ es;split at hv
  ·rename_i hh;obtain⟨rfl,hl⟩:=hh;cases hv;have hargs:args=[.d (.s eQ es)]:=by
    match args,ha with
    | [.d x],ha=>simp[jU]at ha;rw[ha]
    | [],ha=>simp[jU]at ha
    | .d x::y::r,ha =>
     simp only[jU]at ha;split at ha
     ·rename_i ds' h1;cases ha;exfalso;cases y<;>simp only[jU]at h1<;>try (cases h1;done)
      split at h1<;>cases h1
     ·cases ha
   subst hargs;refine iL.env (E:=E) ?_ hg VM;intro f hf β I w bz hS hA hG;have hlen:bz.toList.length=1:=hA.1;obtain⟨x,hx⟩:∃ x,bz.toList=[x]:=by
    match bz.toList,hlen with
    | [x],_=>exact⟨x,rfl⟩
   have hr:aH σ β I w 0 (.d (.s eQ es)) x:=hA.2 0 _ x rfl (by rw[hx];rfl);have one:∀ y:FV,aH σ β I w 0 y x->gG σ β I w 0 [y] bz.toList:=by
    intro y hy;rw[hx];refine⟨rfl,fun i c z hc hz => ?_⟩;cases i with
    | zero=>simp at hc hz;subst hc;subst hz;exact hy
    | succ i=>simp at hc
   have key:∀ y:FV,aH σ β I w 0 y x->cu E N g [y] []=some (.d (.s eQ es),none)->Calls P f bz w fun e w'=>∃ x y I',e=.returned x/\FV.d (.s eQ es)=.d y/\bD σ I' w' y x/\Grow E.mn I I' w w' :=
    fun y hy hc=>(pX hm hB hF hP N g [y] [] _ hc).2 f hf β I w bz hS (one y hy) hG
   cases hr with
   | d hd =>
    generalize hes:es=es' at hd;cases hd with
    | s0=>subst hes;exact key (.d (.n eQ)) (.d (.n _)) hn
    | s1 _ a cap=>subst hes;exact key (.z eQ) .z hz
    | s u h1 h2 h3 h4 h5 h6 =>
     subst hes;cases es with
     | nil=>exact key (.z eQ) .z hz
     | cons e es=>exact key _ (.d (.s u h1 h2 h3 h4 h5 h6)) (hs e es hl)
  ·cases hv
 ·cases hv
section
def Rc (σ:Nat->Option FuncId)(I:Nat->Prop)(w:World)(ds:List D)(vs:List Value):Prop :=
 vs.length=ds.length/\∀ (i:Nat) (d:D) (x:Value),ds[i]?=some d->vs[i]?=some x->bD σ I w d x
section lift
variable {H:Type} {enc:TypeId × Value->H} {P:Program} {w:World} {base:Nat} {held:Bool} {σ:Nat->Option FuncId}
def Here (w:World)(b:Nat):Prop:=b<w.heap.size
theorem zX {Q:Nat->D->Prop}:∀ (n:Nat),(∀ i,i<n->∃ d,Q i d)->∃ es:List D,es.length=n/\∀ (i:Nat) (d:D),es[i]?=some d->Q i d
 | 0,_=>⟨[],rfl,fun i d h=>by simp at h⟩
 | n+1,h=>by
  obtain⟨es,hl,he⟩:=zX n (fun i hi=>h i ae);obtain⟨d,hd⟩:=h n ae;refine⟨es++[d],by simp[hl],fun i e hi => ?_⟩;rcases Qg1 i n with hlt|hge
  ·rw[Qa0 ae]at hi;exact he i e hi
  ·rw[Qc0 ae]at hi;have h0:i-es.length=0:=by
    rcases Qq0 (i-es.length) with h|h
    ·exact h
    ·rw[Qn2 (by simp;omega)]at hi;cases hi
   rw[h0]at hi;have:i=n:=ae;subst this;cases hi;exact hd
theorem xO {a:Addr}{n:Nat}{vs:List Value}(h:w.cells? base a n=some vs):vs.length=n/\∀ j,j<n->w.cell? (a.add j)=vs[j]?:=by
 unfold World.cells? at h;split at h
 ·exact⟨by simpa using mapM_some_length h,fun j hj=>by simpa using mapM_some_get h j j (by simp[hj])⟩
 ·cases h
theorem cell_spot {a:Addr}{x:Value}(h:w.cell? a=some x):a.spot=none/\a.block<w.heap.size:=by
 unfold World.cell? at h;split at h
 ·rename_i c e fr hc;split at h
  ·cases h
  ·rename_i hs;exact⟨by simpa using hs,(Q71.1 hc).1⟩
 ·cases h
theorem add_plain (b off n:Nat):(Addr.add ⟨b,off,none⟩ n)=⟨b,off+n,none⟩:=by
 unfold Addr.add;split
 ·rename_i h;subst h;rfl
 ·rfl
theorem Nw {t e:TypeId}{fuel:Nat}{cs:List Value}{x:DataW H × List MemPlace}{Q:D->Prop}{sp:Nat->Bool}(ht:P.underlying t=some (.slice e))(hz:0<P.cellsOf e)
  (hel:∀ (n:Nat) (vs:List Value) (y:DataW H × List MemPlace),n<fuel->DataW.trod enc P w base sp held n e vs=some y->∃ d,Q d/\d.cells.length=P.cellsOf e/\(∀ c ∈ d.cells,c.one=true)/\Rc σ (Here w) w d.cells vs)
  (h:DataW.trod enc P w base sp held fuel t cs=some x):∃ es:List D,(∀ d ∈ es,Q d)/\Rc σ (Here w) w [.s (P.cellsOf e) es] cs:=by
 have single:∀ {d:D} {v:Value},bD σ (Here w) w d v->Rc σ (Here w) w [d] [v]:=by
  intro d v hr;refine⟨rfl,fun i d' x' h1 h2 => ?_⟩
  match i with
  | 0=>cases h1;cases h2;exact hr
  | i+1=>cases h1
 rcases DataW.trod_slice ht h with ⟨rfl,_⟩|⟨a,len,cap,elems,rest,n,hf,rfl,_,_,hlc,hcm,alX,hget,_,_⟩
 ·exact⟨[],fun d hd=>by simp at hd,single (.s0 _)⟩
 ·rcases Qq0 len with h0|hpos
  ·subst h0;exact⟨[],fun d hd=>by simp at hd,single (.s1 _ a cap)⟩
  ·have key:∀ i,i<len->∃ vs y,w.cells? base (a.add (i*P.cellsOf e)) (P.cellsOf e)=some vs/\DataW.trod enc P w base sp held n e vs=some y:=by
    intro i hi;have hg:=hget i hi;rw[Qa1 ae]at hg;rw[Option.bind_eq_some_iff]at hg;obtain⟨vs,h1,h2⟩:=hg;exact⟨vs,_,h1,h2⟩
   obtain⟨vs0,y0,hc0,_⟩:=key 0 hpos;have hcell0:=(xO hc0).2 0 hz;have hl0:=(xO hc0).1;rw[Qa1 ae]at hcell0;have e00:(a.add (0*P.cellsOf e)).add 0=a:=by simp[Addr.add]
   rw[e00]at hcell0;obtain⟨hs,hb⟩:=cell_spot hcell0;obtain⟨b,off,spot⟩:=a;simp only at hs hb;subst hs;obtain⟨es,hlen,hes⟩:=zX (Q:=fun i d=>Q d/\d.cells.length=P.cellsOf e/\(∀ c ∈ d.cells,c.one=true)/\∃ vs,w.cells? base (Addr.add ⟨b,off,none⟩ (i*P.cellsOf e)) (P.cellsOf e)=some vs/\Rc σ (Here w) w d.cells vs) len (fun i hi=>by
    obtain⟨vs,y,h1,h2⟩:=key i hi;obtain⟨d,q1,q2,q3,q4⟩:=hel n vs y ae h2;exact⟨d,q1,q2,q3,vs,h1,q4⟩)
   have at_:∀ (i:Nat) (d:D) (j:Nat) (c:D),es[i]?=some d->d.cells[j]?=some c->∃ x,w.cell? ⟨b,off+i*P.cellsOf e+j,none⟩=some x/\bD σ (Here w) w c x:=by
    intro i d j c h1 h2;obtain⟨_,q2,_,vs,q4,q5⟩:=hes i d h1;have hj:j<P.cellsOf e:=by rw[<-q2];exact(bq h2)
    have hc:=(xO q4).2 j hj;rw[add_plain,add_plain]at hc;have hvl:=(xO q4).1;have hv:vs[j]?=some (vs[j]'(by omega)):=Qa1 ae;exact⟨_,hc.trans hv,q5.2 j c _ h2 hv⟩
   refine⟨es,fun d hd => ?_,single ?_⟩
   ·obtain⟨i,hi⟩:=X20 hd;exact(hes i d hi).1
   ·rw[<-hlen];refine .s (fun i j=>(w.cell? ⟨b,off+i*P.cellsOf e+j,none⟩).getD undef) hb ae ?_ ?_ ?_ ?_
    ·intro d hd;obtain⟨i,hi⟩:=X20 hd;exact(hes i d hi).2.1
    ·intro d hd;obtain⟨i,hi⟩:=X20 hd;exact(hes i d hi).2.2.1
    ·intro i d j c h1 h2;obtain⟨x,hx,_⟩:=at_ i d j c h1 h2;rw[hx];rfl
    ·intro i d j c h1 h2;obtain⟨x,hx,hr⟩:=at_ i d j c h1 h2;rw[hx];exact hr
theorem Rc.append {ds ds':List D}{vs vs':List Value}(h:Rc σ (Here w) w ds vs)(k:Rc σ (Here w) w ds' vs'):Rc σ (Here w) w (ds++ds') (vs++vs'):=by
 refine⟨by simp[h.1,k.1],fun i d x h1 h2 => ?_⟩;rcases Qg1 i ds.length with hi|hi
 ·rw[Qa0 hi]at h1;rw[Qa0 (by rw[h.1];exact hi)]at h2;exact h.2 i d x h1 h2
 ·rw[Qc0 hi]at h1;rw[Qc0 (by rw[h.1];exact hi),h.1]at h2;exact k.2 _ d x h1 h2
theorem KD {t:TypeId}{k:IntKind}{fuel:Nat}{cs:List Value}{x:DataW H × List MemPlace}{sp:Nat->Bool}(ht:P.underlying t=some (.int k))(h:DataW.trod enc P w base sp held fuel t cs=some x) :
  ∃ n:Int,(Lit.int k n).wf=true/\Rc σ (Here w) w [.v (.int k n)] cs:=by
 obtain⟨n,rfl,_,hw⟩:=DataW.trod_int ht h;refine⟨n,hw,rfl,fun i d x h1 h2 => ?_⟩
 match i with
 | 0=>cases h1;cases h2;exact .v _
 | i+1=>cases h1
theorem RI {t:TypeId}{fuel:Nat}{cs:List Value}{x:DataW H × List MemPlace}{sp:Nat->Bool}(ht:P.underlying t=some .bool)(h:DataW.trod enc P w base sp held fuel t cs=some x) :
  ∃ b:Bool,Rc σ (Here w) w [.v (.bool b)] cs:=by
 obtain⟨b,rfl,_⟩:=DataW.trod_bool ht h;refine⟨b,rfl,fun i d x h1 h2 => ?_⟩
 match i with
 | 0=>cases h1;cases h2;exact .v _
 | i+1=>cases h1
end lift
end
end Fi
