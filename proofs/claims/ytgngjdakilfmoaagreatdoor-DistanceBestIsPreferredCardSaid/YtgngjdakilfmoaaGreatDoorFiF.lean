import Derived.Test.YtgngjdakilfmoaaGreatDoorFiE
import Derived.Below
import Derived.ChangeArms
import Derived.OpenShut
set_option linter.unusedVariables false
set_option linter.unusedSimpArgs false
namespace Fi
open Go Go.RowKit
theorem Fw {mn:Prop}{I I':Nat->Prop}{w w':World}(h:Grow mn I I' w w'):Below w.heap.size w w':=⟨h.os,h.tape,h.output,h.size,h.keep⟩
theorem ach {P:Program}{E:Env}{σ:Nat->Option FuncId}(hm:P.follows .mixedOrders=true)(hB:Bodies P E σ)(hF:nL P E σ)(hP:ja P E σ){N g:Nat}{ds:List D}
  (h:cz E N g (ds.map .d) []=some (.d (.v (.bool true)),none)) {f:FuncId} (hσ:σ g=some f) {I:Nat->Prop} {w:World} {bz:Array Value} (hI:∀ b,I b->b<w.heap.size)
  (hl:bz.toList.length=ds.length) (hA:∀ (i:Nat) (d:D) (x:Value),ds[i]?=some d->bz.toList[i]?=some x->bE σ I w d x) (hG:dX E σ I w) :
  Calls P f bz w fun e w'=>e=.returned (.bool true)/\Below w.heap.size w w':=by
 refine(Gi hm hB hF hP h hσ hI ⟨by simpa using hl,fun i c x hc hx => ?_⟩ hG).mono fun e w' ⟨x,z,I',he,hz,hr,hg⟩ => ?_
 ·simp only[Qb1,Qf1]at hc;obtain⟨d,hd,rfl⟩:=hc;exact .d (hA i d x hd hx)
 ·cases hz;cases hr;exact⟨he,Fw hg⟩
end Fi
namespace Fi
open Go
def zA (sz:Nat)(ds:List D):Option D :=
 match ds with
 | [.s fE es]=>if fE=sz/\es.length<=1000000 then some (.s sz es) else none
 | _=>none
theorem iV.env {P:Program}{E E':Env}{σ:Nat->Option FuncId}{g:Nat}{args:List FV}{v:FV}(h:iV P E σ g args [] (v,none))(hg:E'.eG=E.eG)(Xd:E'.mn=E.mn):iV P E' σ g args [] (v,none):=by
 intro f hf β I w bz hS hA hG;have hG':dX E σ I w:=by
  intro j y hy;rw[<-hg]at hy;exact hG j y hy
 have:=h f hf β I w bz hS hA hG';rw[Xd];exact this
theorem KS {P:Program}{E E':Env}{σ:Nat->Option FuncId}(hm:P.follows .mixedOrders=true)(hB:Bodies P E σ)(hF:nL P E σ)(hP:ja P E σ){N g sz:Nat}
  (hn:cz E N g [.d (.n sz)] []=some (.d (.s sz []),none)) (hz:cz E N g [.z sz] []=some (.d (.s sz []),none))
  (hs:∀ e es,(e::es).length<=1000000->cz E N g [.d (.s sz (e::es))] []=some (.d (.s sz (e::es)),none)) (hg:E'.eG=E.eG) (Xd:E'.mn=E.mn)
  {args:List FV} {ds:List D} {v:D} (ha:jN args=some ds) (hv:zA sz ds=some v):iV P E' σ g args [] (.d v,none):=by
 unfold zA at hv;split at hv
 ·rename_i fE es;split at hv
  ·rename_i hh;obtain⟨rfl,hl⟩:=hh;cases hv;have hargs:args=[.d (.s fE es)]:=by
    match args,ha with
    | [.d x],ha=>simp[jN]at ha;rw[ha]
    | [],ha=>simp[jN]at ha
    | .d x::y::r,ha =>
     simp only[jN]at ha;split at ha
     ·rename_i ds' h1;cases ha;exfalso;cases y<;>simp only[jN]at h1<;>try (cases h1;done)
      split at h1<;>cases h1
     ·cases ha
   subst hargs;refine iV.env (E:=E) ?_ hg Xd;intro f hf β I w bz hS hA hG;have hlen:bz.toList.length=1:=hA.1;obtain⟨x,hx⟩:∃ x,bz.toList=[x]:=by
    match bz.toList,hlen with
    | [x],_=>exact⟨x,rfl⟩
   have hr:aI σ β I w 0 (.d (.s fE es)) x:=hA.2 0 _ x rfl (by rw[hx];rfl);have one:∀ y:FV,aI σ β I w 0 y x->gW σ β I w 0 [y] bz.toList:=by
    intro y hy;rw[hx];refine⟨rfl,fun i c z hc hz => ?_⟩;cases i with
    | zero=>simp at hc hz;subst hc;subst hz;exact hy
    | succ i=>simp at hc
   have key:∀ y:FV,aI σ β I w 0 y x->cz E N g [y] []=some (.d (.s fE es),none)->Calls P f bz w fun e w'=>∃ x y I',e=.returned x/\FV.d (.s fE es)=.d y/\bE σ I' w' y x/\Grow E.mn I I' w w' :=
    fun y hy hc=>(qQ hm hB hF hP N g [y] [] _ hc).2 f hf β I w bz hS (one y hy) hG
   cases hr with
   | d hd =>
    generalize hes:es=es' at hd;cases hd with
    | s0=>subst hes;exact key (.d (.n fE)) (.d (.n _)) hn
    | s1 _ a cap=>subst hes;exact key (.z fE) .z hz
    | s u h1 h2 h3 h4 h5 h6 =>
     subst hes;cases es with
     | nil=>exact key (.z fE) .z hz
     | cons e es=>exact key _ (.d (.s u h1 h2 h3 h4 h5 h6)) (hs e es hl)
  ·cases hv
 ·cases hv
section
def Rc (σ:Nat->Option FuncId)(I:Nat->Prop)(w:World)(ds:List D)(vs:List Value):Prop :=
 vs.length=ds.length/\∀ (i:Nat) (d:D) (x:Value),ds[i]?=some d->vs[i]?=some x->bE σ I w d x
section lift
variable {H:Type} {enc:TypeId × Value->H} {P:Program} {w:World} {base:Nat} {held:Bool} {σ:Nat->Option FuncId}
def Here (w:World)(b:Nat):Prop:=b<w.heap.size
theorem AY {Q:Nat->D->Prop}:∀ (n:Nat),(∀ i,i<n->∃ d,Q i d)->∃ es:List D,es.length=n/\∀ (i:Nat) (d:D),es[i]?=some d->Q i d
 | 0,_=>⟨[],rfl,fun i d h=>by simp at h⟩
 | n+1,h=>by
  obtain⟨es,hl,he⟩:=AY n (fun i hi=>h i ae);obtain⟨d,hd⟩:=h n ae;refine⟨es++[d],by simp[hl],fun i e hi => ?_⟩;rcases Qg0 i n with hlt|hge
  ·rw[Qa0 ae]at hi;exact he i e hi
  ·rw[Qc0 ae]at hi;have h0:i-es.length=0:=by
    rcases Qr2 (i-es.length) with h|h
    ·exact h
    ·rw[Qp1 (by simp;omega)]at hi;cases hi
   rw[h0]at hi;have:i=n:=ae;subst this;cases hi;exact hd
theorem yE {a:Addr}{n:Nat}{vs:List Value}(h:w.cells? base a n=some vs):vs.length=n/\∀ j,j<n->w.cell? (a.add j)=vs[j]?:=by
 unfold World.cells? at h;split at h
 ·exact⟨by simpa using mapM_some_length h,fun j hj=>by simpa using mapM_some_get h j j (by simp[hj])⟩
 ·cases h
theorem cell_spot {a:Addr}{x:Value}(h:w.cell? a=some x):a.spot=none/\a.block<w.heap.size:=by
 unfold World.cell? at h;split at h
 ·rename_i c e fr hc;split at h
  ·cases h
  ·rename_i hs;exact⟨by simpa using hs,(Q80.1 hc).1⟩
 ·cases h
theorem add_plain (b off n:Nat):(Addr.add ⟨b,off,none⟩ n)=⟨b,off+n,none⟩:=by
 unfold Addr.add;split
 ·rename_i h;subst h;rfl
 ·rfl
theorem OP {t e:TypeId}{fuel:Nat}{cs:List Value}{x:DataW H × List MemPlace}{Q:D->Prop}{sp:Nat->Bool}(ht:P.underlying t=some (.slice e))(hz:0<P.cellsOf e)
  (hel:∀ (n:Nat) (vs:List Value) (y:DataW H × List MemPlace),n<fuel->DataW.trod enc P w base sp held n e vs=some y->∃ d,Q d/\d.cells.length=P.cellsOf e/\(∀ c ∈ d.cells,c.one=true)/\Rc σ (Here w) w d.cells vs)
  (h:DataW.trod enc P w base sp held fuel t cs=some x):∃ es:List D,(∀ d ∈ es,Q d)/\Rc σ (Here w) w [.s (P.cellsOf e) es] cs:=by
 have single:∀ {d:D} {v:Value},bE σ (Here w) w d v->Rc σ (Here w) w [d] [v]:=by
  intro d v hr;refine⟨rfl,fun i d' x' h1 h2 => ?_⟩
  match i with
  | 0=>cases h1;cases h2;exact hr
  | i+1=>cases h1
 rcases DataW.trod_slice ht h with ⟨rfl,_⟩|⟨a,len,cap,elems,rest,n,hf,rfl,_,_,hlc,hcm,anV,hget,_,_⟩
 ·exact⟨[],fun d hd=>by simp at hd,single (.s0 _)⟩
 ·rcases Qr2 len with h0|hpos
  ·subst h0;exact⟨[],fun d hd=>by simp at hd,single (.s1 _ a cap)⟩
  ·have key:∀ i,i<len->∃ vs y,w.cells? base (a.add (i*P.cellsOf e)) (P.cellsOf e)=some vs/\DataW.trod enc P w base sp held n e vs=some y:=by
    intro i hi;have hg:=hget i hi;rw[Qa1 ae]at hg;rw[Option.bind_eq_some_iff]at hg;obtain⟨vs,h1,h2⟩:=hg;exact⟨vs,_,h1,h2⟩
   obtain⟨vs0,y0,hc0,_⟩:=key 0 hpos;have hcell0:=(yE hc0).2 0 hz;have hl0:=(yE hc0).1;rw[Qa1 ae]at hcell0;have e00:(a.add (0*P.cellsOf e)).add 0=a:=by simp[Addr.add]
   rw[e00]at hcell0;obtain⟨hs,hb⟩:=cell_spot hcell0;obtain⟨b,off,spot⟩:=a;simp only at hs hb;subst hs;obtain⟨es,hlen,hes⟩:=AY (Q:=fun i d=>Q d/\d.cells.length=P.cellsOf e/\(∀ c ∈ d.cells,c.one=true)/\∃ vs,w.cells? base (Addr.add ⟨b,off,none⟩ (i*P.cellsOf e)) (P.cellsOf e)=some vs/\Rc σ (Here w) w d.cells vs) len (fun i hi=>by
    obtain⟨vs,y,h1,h2⟩:=key i hi;obtain⟨d,q1,q2,q3,q4⟩:=hel n vs y ae h2;exact⟨d,q1,q2,q3,vs,h1,q4⟩)
   have at_:∀ (i:Nat) (d:D) (j:Nat) (c:D),es[i]?=some d->d.cells[j]?=some c->∃ x,w.cell? ⟨b,off+i*P.cellsOf e+j,none⟩=some x/\bE σ (Here w) w c x:=by
    intro i d j c h1 h2;obtain⟨_,q2,_,vs,q4,q5⟩:=hes i d h1;have hj:j<P.cellsOf e:=by rw[<-q2];exact(aT h2)
    have hc:=(yE q4).2 j hj;rw[add_plain,add_plain]at hc;have hvl:=(yE q4).1;have hv:vs[j]?=some (vs[j]'(by omega)):=Qa1 ae;exact⟨_,hc.trans hv,q5.2 j c _ h2 hv⟩
   refine⟨es,fun d hd => ?_,single ?_⟩
   ·obtain⟨i,hi⟩:=X42 hd;exact(hes i d hi).1
   ·rw[<-hlen];refine .s (fun i j=>(w.cell? ⟨b,off+i*P.cellsOf e+j,none⟩).getD undef) hb ae ?_ ?_ ?_ ?_
    ·intro d hd;obtain⟨i,hi⟩:=X42 hd;exact(hes i d hi).2.1
    ·intro d hd;obtain⟨i,hi⟩:=X42 hd;exact(hes i d hi).2.2.1
    ·intro i d j c h1 h2;obtain⟨x,hx,_⟩:=at_ i d j c h1 h2;rw[hx];rfl
    ·intro i d j c h1 h2;obtain⟨x,hx,hr⟩:=at_ i d j c h1 h2;rw[hx];exact hr
theorem Rc.append {ds ds':List D}{vs vs':List Value}(h:Rc σ (Here w) w ds vs)(k:Rc σ (Here w) w ds' vs'):Rc σ (Here w) w (ds++ds') (vs++vs'):=by
 refine⟨by simp[h.1,k.1],fun i d x h1 h2 => ?_⟩;rcases Qg0 i ds.length with hi|hi
 ·rw[Qa0 hi]at h1;rw[Qa0 (by rw[h.1];exact hi)]at h2;exact h.2 i d x h1 h2
 ·rw[Qc0 hi]at h1;rw[Qc0 (by rw[h.1];exact hi),h.1]at h2;exact k.2 _ d x h1 h2
theorem LH {t:TypeId}{k:IntKind}{fuel:Nat}{cs:List Value}{x:DataW H × List MemPlace}{sp:Nat->Bool}(ht:P.underlying t=some (.int k))(h:DataW.trod enc P w base sp held fuel t cs=some x) :
  ∃ n:Int,(Lit.int k n).wf=true/\Rc σ (Here w) w [.v (.int k n)] cs:=by
 obtain⟨n,rfl,_,hw⟩:=DataW.trod_int ht h;refine⟨n,hw,rfl,fun i d x h1 h2 => ?_⟩
 match i with
 | 0=>cases h1;cases h2;exact .v _
 | i+1=>cases h1
theorem Tp {t:TypeId}{fuel:Nat}{cs:List Value}{x:DataW H × List MemPlace}{sp:Nat->Bool}(ht:P.underlying t=some .bool)(h:DataW.trod enc P w base sp held fuel t cs=some x) :
  ∃ b:Bool,Rc σ (Here w) w [.v (.bool b)] cs:=by
 obtain⟨b,rfl,_⟩:=DataW.trod_bool ht h;refine⟨b,rfl,fun i d x h1 h2 => ?_⟩
 match i with
 | 0=>cases h1;cases h2;exact .v _
 | i+1=>cases h1
end lift
end
end Fi
