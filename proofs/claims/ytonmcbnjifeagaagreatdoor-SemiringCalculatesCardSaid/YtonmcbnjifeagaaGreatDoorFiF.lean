/- Functions that are given; tables; what a row reads. -/
import Derived.Test.YtonmcbnjifeagaaGreatDoorFiE
import Derived.Shelf.Strconv.Itoa3
import Derived.Shelf.Strings.OnBuilder
import Derived.Lib.LaidTab
import Derived.Lib.LaidU8
import Derived.LaidHandle
import Derived.ChangeArms
import Derived.OpenShut
set_option linter.unusedVariables false
set_option linter.unusedSimpArgs false
namespace Fi
open Go Go.Proofs
def Q7:Nat->Nat->List UInt8->List UInt8
 | 0,_,acc=>acc
 | fuel+1,n,acc=>bif Nat.blt n 10 then UInt8.ofNat (48+n)::acc else Q7 fuel (n / 10) (UInt8.ofNat (48+n % 10)::acc)
theorem DY:∀ (fuel n:Nat) (acc:List UInt8),n<10 ^ fuel->0<fuel->Q7 fuel n acc=Lib.decDigits n++acc
 | 0,_,_,_,h=>by omega
 | fuel+1,n,acc,h,_=>by
  rw[Q7,Lib.decDigits]
  by_cases hn:n<10
  ·have h1:Nat.blt n 10=true:=Nat.ble_eq_true_of_le hn;rw[h1,dif_pos hn];rfl
  ·have h1:Nat.blt n 10=false:=by
    cases hb:Nat.blt n 10 with
    | false=>rfl
    | true=>exact absurd (Nat.le_of_ble_eq_true hb) hn
   rw[h1,dif_neg hn];have h2:n / 10<10 ^ fuel:=by
    rw[Nat.pow_succ]at h;omega
   have h3:0<fuel:=by
    rcases Nat.eq_zero_or_pos fuel with h0|h0
    ·subst h0;simp at h;omega
    ·exact h0
   simp only[cond_false];rw[DY fuel (n / 10) _ h2 h3,List.append_assoc];rfl
def Q8 (n:Int):List UInt8:=if n<0 then 45::Q7 20 n.natAbs [] else Q7 20 n.toNat []
theorem Q9 {n:Int}(h0:-9223372036854775808<=n)(h1:n<=9223372036854775807):Q8 n=Lib.itoa n:=by
 unfold Q8 Lib.itoa;rw[DY 20 n.natAbs [] (by omega) (by omega),DY 20 n.toNat [] (by omega) (by omega),List.append_nil,List.append_nil]
def Q_:List D->Option D
 | [.v (.int .i64 n)]=>if -9223372036854775808<=n/\n<=9223372036854775807 then some (.v (.string ⟨(Q8 n).toArray⟩)) else none
 | _=>none
def Ra:D:=.a (Lib.pow10Tab.map fun z=>.v (.int .u64 z))
theorem DZ:∀ {args:List FV} {ds:List D},lT args=some ds->args=ds.map .d
 | [],ds,h=>by simp[lT]at h;subst h;rfl
 | x::r,ds,h=>by
  cases x<;>simp only[lT]at h<;>try (cases h;done)
  split at h<;>simp at h;subst h;rename_i hr;rw[DZ hr];rfl
theorem D5 {P:Program}{E:Env}{σ:Nat->Option FuncId}{I:Nat->Prop}{w:World}(hG:dm E σ I w){name:String}{k0:Nat}(hg:P.globalNamed name=some k0){k:IntKind}{zs:List Int}(he:E.eZ k0=some (.a (zs.map fun z=>.v (.int k z)))) :
  Lib.TabIs P w name k zs:=by
 obtain⟨_,_,hat,c,e,fr,hc,hl⟩:=hG k0 _ he;unfold Lib.TabIs World.var?;simp only[hg,Option.bind_some,hc,Option.some.injEq];simp only[D.cells,List.length_map]at hl;apply Array.ext
 ·simpa using hl
 ·intro i h1 h2;have hz:i<zs.length:=by omega
  obtain⟨x,g1,g2⟩:=hat i (.v (.int k zs[i])) (by simp[D.cells,hz]);have g3:c[i]?=some x:=by
   have:w.cell? ⟨k0,0+i,none⟩=c[i]?:=by simp[World.cell?,hc]
   rw[<-this];exact g1
  cases g2;rw[Array.getElem?_eq_getElem h1]at g3;simp only[Option.some.injEq]at g3;simp[g3]
theorem UU {P : Program} {ρ : Shelf.Ren} (L : LaysM.n171 P ρ) {E : Env} {σ : Nat → Option FuncId} {g k0 : Nat} (hg : P.globalNamed "internal/strconv.uint64pow10" = some k0) (he : E.eZ k0 = some Ra) (hσ : ∀ f, σ g = some f → f = ρ.f 171)
  (args:List FV) (ds:List D) (v:D) (ha:lT args=some ds) (hv:Q_ ds=some v):oQ P E σ g args [] (.d v,none):=by
 intro f hf β I w aU hS hA hG;have:=hσ f hf;subst this;have hargs:=DZ ha;subst hargs;unfold Q_ at hv;split at hv
 ·rename_i n;split at hv
  ·rename_i hn;cases hv;have hl:aU.toList.length=1:=hA.1;have hva:aU=#[.int .i64 n]:=by
    match hvl:aU.toList,hl with
    | [x],_ =>
     have hr:=hA.2 0 _ x rfl (by rw[hvl];rfl);cases hr with
     | d hr =>
      cases hr;apply Array.ext';rw[hvl]
   subst hva;refine(Any.strconv_Itoa L n hn.1 hn.2 w (D5 hG hg he)).mono fun e w' ⟨h1,kk,os,h2⟩ => ?_
   subst h2;refine⟨_,_,I,h1,rfl,?_,fun b hb=>hb,fun b hb=>.inl hb,fun b hb => ?_,?_,fun b hb => ?_,rfl,rfl,rfl,fun _ => ?_⟩
   ·rw[Q9 hn.1 hn.2];exact .v _
   ·have:=hS.jc b hb;simp only[Sort.grow,World.drewN,Array.size_append];omega
   ·simp only[Sort.grow,World.drewN,Array.size_append];omega
   ·simp only[Sort.grow,World.drewN];rw[Array.getElem?_append_left hb]
   ·simp only[Sort.grow,World.drewN];omega
  ·cases hv
 ·cases hv
end Fi
namespace Fi
open Go Go.Proofs Go.RowKit
def strsOf:List D->Option (List ByteArray)
 | []=>some []
 | .v (.string s)::r=>match strsOf r with
  | some t=>some (s::t)
  | none=>none
 | _=>none
def Rb:List D->Option D
 | [.s 1 es,.v (.string sep)]=>match strsOf es with
  | some xs =>
   let t:=Lib.join (xs.map (·.data.toList)) sep.data.toList
   bif Nat.ble xs.length 140737488355328&&Nat.ble t.length 140737488355328 then some (.v (.string ⟨t.toArray⟩)) else none
  | none=>none
 | [.n 1,.v (.string _)]=>some (.v (.string ⟨#[]⟩))
 | _=>none
theorem Ci:∀ {es:List D} {xs:List ByteArray},strsOf es=some xs->es=xs.map fun s=>.v (.string s)
 | [],xs,h=>by simp[strsOf]at h;subst h;rfl
 | e::r,xs,h=>by
  unfold strsOf at h;split at h
  ·cases ‹_::_=[]›
  ·rename_i he;cases he;split at h
   ·rename_i ht;cases h;rw[Ci ht];rfl
   ·cases h
  ·cases h
theorem jB {mn:Prop}{I:Nat->Prop}{w w':World}(Ry:¬ mn)(hi:∀ b,I b->b<w.heap.size)(h:Below w.heap.size w w'):Grow mn I I w w' :=
 ⟨fun b hb=>hb,fun b hb=>.inl hb,fun b hb=>Nat.lt_of_lt_of_le (hi b hb) h.size,h.size,fun b hb=>h.block b hb,h.os,h.tape,h.output,fun m=>absurd m Ry⟩
theorem Gl {σ:Nat->Option FuncId}{β:Map}{I:Nat->Prop}{w:World}{n:Nat}{a b:D}{aU:Array Value}(hA:fD σ β I w n [.d a,.d b] aU.toList) :
  ∃ x y,aU=#[x,y]/\aV σ I w a x/\aV σ I w b y:=by
 have hl:aU.toList.length=2:=hA.1
 match hvl:aU.toList,hl with
 | [x,y],_ =>
  have h0:=hA.2 0 _ x rfl (by rw[hvl];rfl);have h1:=hA.2 1 _ y rfl (by rw[hvl];rfl);cases h0 with
  | d h0=>cases h1 with
   | d h1=>exact⟨x,y,by apply Array.ext';rw[hvl],h0,h1⟩
theorem UW {P:Program}{ρ:Shelf.Ren}(L:Lays.n156 P ρ)(X:Builder.Extra P ρ){E:Env}(Ry:¬ E.mn){σ:Nat->Option FuncId}{g:Nat}(hσ:∀ f,σ g=some f->f=ρ.f 156)
  (args:List FV) (ds:List D) (v:D) (ha:lT args=some ds) (hv:Rb ds=some v):oQ P E σ g args [] (.d v,none):=by
 intro f hf β I w aU hS hA hG;have:=hσ f hf;subst this;have hargs:=DZ ha;subst hargs;unfold Rb at hv;split at hv
 ·rename_i es sep;split at hv
  ·rename_i xs hxs;obtain⟨x,y,rfl,h0,h1⟩:=Gl hA;cases h1;have hes:=Ci hxs;cases hb:(Nat.ble xs.length 140737488355328&&Nat.ble (Lib.join (xs.map (·.data.toList)) sep.data.toList).length 140737488355328) with
   | false=>simp only[hb,cond_false]at hv;cases hv
   | true =>
    simp only[hb,cond_true,Option.some.injEq]at hv;subst hv;simp only[Bool.and_eq_true]at hb;have hn:=Nat.le_of_ble_eq_true hb.1;have hl:=Nat.le_of_ble_eq_true hb.2;cases h0 with
    | s0 =>
     cases xs with
     | cons x r=>simp at hes
     | nil =>
      refine(Any.strings_Join_none L X none 0 sep w).mono fun e w' ⟨he,hw⟩=>⟨_,_,I,he,rfl,?_,?_⟩
      ·exact .v _
      ·subst hw;exact jB Ry hS.jc (Below.refl _ _)
    | s1 _ a cap =>
     cases xs with
     | cons x r=>simp at hes
     | nil =>
      refine(Any.strings_Join_none L X (some a) cap sep w).mono fun e w' ⟨he,hw⟩=>⟨_,_,I,he,rfl,?_,?_⟩
      ·exact .v _
      ·subst hw;exact jB Ry hS.jc (Below.refl _ _)
    | @s _ _ b off cap u hb0 hc hsz hone hcell hrep =>
     subst hes;rw[List.length_map];refine(Any.strings_Join L X b off cap xs sep w ?_ (hS.jc b hb0) hn (by simpa using hc) hl).mono fun e w' ⟨he,hw⟩=>⟨_,_,I,he,rfl,.v _,jB Ry hS.jc hw⟩
     intro j s hj;have g1:(xs.map fun s=>D.v (.string s))[j]?=some (.v (.string s)):=by simp[hj]
     have g2:=hcell j _ 0 (.v (.string s)) g1 rfl;have g3:=hrep j _ 0 (.v (.string s)) g1 rfl;generalize u j 0=z at g2 g3;cases g3;simpa using g2
  ·cases hv
 ·rename_i sep;cases hv;obtain⟨x,y,rfl,h0,h1⟩:=Gl hA;cases h1;cases h0;refine(Any.strings_Join_none L X none 0 sep w).mono fun e w' ⟨he,hw⟩=>⟨_,_,I,he,rfl,.v _,?_⟩
  subst hw;exact jB Ry hS.jc (Below.refl _ _)
 ·cases hv
theorem D6 {P:Program}{W:World}{name:String}{k:IntKind}{zs:List Int}{l:List (String × DataW Unit)}{g:Nat}{t e:TypeId}{n:Nat}
  (hg:P.globalNamed name=some g) (hty:(P.globals[g]?).map (·.type)=some t) (ht:P.underlying t=some (.array n e)) (he:P.underlying e=some (.int k)) (hce:P.cellsOf e=1) (hct:P.cellsOf t=n)
  (hm:(name,Lib.tabData k zs) ∈ l) (h:laidMet P l W):Lib.TabIs P W name k zs:=by
 obtain⟨g',t',cs,fuel,p,hg',hty',hvar,hd⟩:=Lib.laidMet.reads h hm;obtain rfl:=Option.some.inj (hg.symm.trans hg');obtain rfl:=Option.some.inj (hty.symm.trans hty');unfold Lib.TabIs;rw[hvar,<-Lib.cells_of_tab ht he hce hct hd]
theorem Ji {P:Program}{W:World}{name:String}{k:IntKind}{zs:List Int}{g:Nat}(hg:P.globalNamed name=some g)(h:Lib.TabIs P W name k zs) :
  ∃ e fr,W.heap[g]?=some (.cells (zs.map fun z=>Value.int k z).toArray e fr):=by
 unfold Lib.TabIs World.var? at h;rw[hg]at h;simp only[Option.bind_some]at h;split at h
 ·rename_i cs e fr hc;cases h;exact⟨e,fr,hc⟩
 ·cases h
theorem D7 {P:Program}{E:Env}{σ:Nat->Option FuncId}{W:World}{name:String}{k:IntKind}{zs:List Int}{g:Nat}(hg:P.globalNamed name=some g)(h:Lib.TabIs P W name k zs)
  (hE:∀ j y,E.eZ j=some y->j=g/\y=.a (zs.map fun z=>.v (.int k z))):dm E σ (fun b=>b=g) W/\∀ b,b=g->b<W.heap.size:=by
 obtain⟨e,fr,hr⟩:=Ji hg h;constructor
 ·intro j y hy;obtain⟨rfl,rfl⟩:=hE j y hy;refine⟨rfl,?_,?_,_,e,fr,hr,by simp[D.cells]⟩
  ·intro c hc;simp only[D.cells,List.mem_map]at hc;obtain⟨z,_,rfl⟩:=hc;rfl
  ·intro i c hc;simp only[D.cells,List.getElem?_map,Option.map_eq_some_iff]at hc;obtain⟨z,hz,rfl⟩:=hc;refine⟨.int k z,?_,.v _⟩;simp[World.cell?,hr,hz]
 ·rintro b rfl;exact(Array.getElem?_eq_some_iff.1 hr).1
theorem A7 {mn:Prop}{I I':Nat->Prop}{w w':World}(h:Grow mn I I' w w'):Below w.heap.size w w':=⟨h.os,h.tape,h.output,h.size,h.keep⟩
theorem UX {P:Program}{E:Env}{σ:Nat->Option FuncId}(hm:P.follows .mixedOrders=true)(hB:Bodies P E σ)(hF:mf P E σ)(hP:iK P E σ){N g:Nat}{ds:List D}
  (h:bX E N g (ds.map .d) []=some (.d (.v (.bool true)),none)) {f:FuncId} (hσ:σ g=some f) {I:Nat->Prop} {w:World} {aU:Array Value} (hI:∀ b,I b->b<w.heap.size)
  (hl:aU.toList.length=ds.length) (hA:∀ (i:Nat) (d:D) (x:Value),ds[i]?=some d->aU.toList[i]?=some x->aV σ I w d x) (hG:dm E σ I w) :
  Calls P f aU w fun e w'=>e=.returned (.bool true)/\Below w.heap.size w w':=by
 refine(Bp hm hB hF hP h hσ hI ⟨by simpa using hl,fun i c x hc hx => ?_⟩ hG).mono fun e w' ⟨x,z,I',he,hz,hr,hg⟩ => ?_
 ·simp only[List.getElem?_map,Option.map_eq_some_iff]at hc;obtain⟨d,hd,rfl⟩:=hc;exact .d (hA i d x hd hx)
 ·cases hz;cases hr;exact⟨he,A7 hg⟩
end Fi
namespace Fi
open Go
section
def Rc (σ:Nat->Option FuncId)(I:Nat->Prop)(w:World)(ds:List D)(vs:List Value):Prop :=
 vs.length=ds.length/\∀ (i:Nat) (d:D) (x:Value),ds[i]?=some d->vs[i]?=some x->aV σ I w d x
section lift
variable {H:Type} {enc:TypeId × Value->H} {P:Program} {w:World} {base:Nat} {held:Bool} {σ:Nat->Option FuncId}
def Here (w:World)(b:Nat):Prop:=b<w.heap.size
theorem wU {Q:Nat->D->Prop}:∀ (n:Nat),(∀ i,i<n->∃ d,Q i d)->∃ es:List D,es.length=n/\∀ (i:Nat) (d:D),es[i]?=some d->Q i d
 | 0,_=>⟨[],rfl,fun i d h=>by simp at h⟩
 | n+1,h=>by
  obtain⟨es,hl,he⟩:=wU n (fun i hi=>h i (by omega));obtain⟨d,hd⟩:=h n (by omega);refine⟨es++[d],by simp[hl],fun i e hi => ?_⟩;rcases Nat.lt_or_ge i n with hlt|hge
  ·rw[List.getElem?_append_left (by omega)]at hi;exact he i e hi
  ·rw[List.getElem?_append_right (by omega)]at hi;have h0:i-es.length=0:=by
    rcases Nat.eq_zero_or_pos (i-es.length) with h|h
    ·exact h
    ·rw[List.getElem?_eq_none (by simp;omega)]at hi;cases hi
   rw[h0]at hi;have:i=n:=by omega
   subst this;cases hi;exact hd
theorem uH {a:Addr}{n:Nat}{vs:List Value}(h:w.cells? base a n=some vs):vs.length=n/\∀ j,j<n->w.cell? (a.add j)=vs[j]?:=by
 unfold World.cells? at h;split at h
 ·exact⟨by simpa using mapM_some_length h,fun j hj=>by simpa using mapM_some_get h j j (by simp[hj])⟩
 ·cases h
theorem cell_spot {a:Addr}{x:Value}(h:w.cell? a=some x):a.spot=none/\a.block<w.heap.size:=by
 unfold World.cell? at h;split at h
 ·rename_i c e fr hc;split at h
  ·cases h
  ·rename_i hs;exact⟨by simpa using hs,(Array.getElem?_eq_some_iff.1 hc).1⟩
 ·cases h
theorem add_plain (b off n:Nat):(Addr.add ⟨b,off,none⟩ n)=⟨b,off+n,none⟩:=by
 unfold Addr.add;split
 ·rename_i h;subst h;rfl
 ·rfl
theorem rJ {t e:TypeId}{fuel:Nat}{cs:List Value}{x:DataW H × List MemPlace}{Q:D->Prop}{sp:Nat->Bool}(ht:P.underlying t=some (.slice e))(hz:0<P.cellsOf e)
  (hel:∀ (n:Nat) (vs:List Value) (y:DataW H × List MemPlace),n<fuel->DataW.trod enc P w base sp held n e vs=some y->∃ d,Q d/\d.cells.length=P.cellsOf e/\(∀ c ∈ d.cells,c.one=true)/\Rc σ (Here w) w d.cells vs)
  (h:DataW.trod enc P w base sp held fuel t cs=some x):∃ es:List D,(∀ d ∈ es,Q d)/\Rc σ (Here w) w [.s (P.cellsOf e) es] cs:=by
 have single:∀ {d:D} {v:Value},aV σ (Here w) w d v->Rc σ (Here w) w [d] [v]:=by
  intro d v hr;refine⟨rfl,fun i d' x' h1 h2 => ?_⟩
  match i with
  | 0=>cases h1;cases h2;exact hr
  | i+1=>cases h1
 rcases DataW.trod_slice ht h with ⟨rfl,_⟩|⟨a,len,cap,elems,rest,n,hf,rfl,_,_,hlc,hcm,ags,hget,_,_⟩
 ·exact⟨[],fun d hd=>by simp at hd,single (.s0 _)⟩
 ·rcases Nat.eq_zero_or_pos len with h0|hpos
  ·subst h0;exact⟨[],fun d hd=>by simp at hd,single (.s1 _ a cap)⟩
  ·have key:∀ i,i<len->∃ vs y,w.cells? base (a.add (i*P.cellsOf e)) (P.cellsOf e)=some vs/\DataW.trod enc P w base sp held n e vs=some y:=by
    intro i hi;have hg:=hget i hi;rw[List.getElem?_eq_getElem (by omega)]at hg;rw[Option.bind_eq_some_iff]at hg;obtain⟨vs,h1,h2⟩:=hg;exact⟨vs,_,h1,h2⟩
   obtain⟨vs0,y0,hc0,_⟩:=key 0 hpos;have hcell0:=(uH hc0).2 0 hz;have hl0:=(uH hc0).1;rw[List.getElem?_eq_getElem (by omega)]at hcell0;have e00:(a.add (0*P.cellsOf e)).add 0=a:=by simp[Addr.add]
   rw[e00]at hcell0;obtain⟨hs,hb⟩:=cell_spot hcell0;obtain⟨b,off,spot⟩:=a;simp only at hs hb;subst hs;obtain⟨es,hlen,hes⟩:=wU (Q:=fun i d=>Q d/\d.cells.length=P.cellsOf e/\(∀ c ∈ d.cells,c.one=true)/\∃ vs,w.cells? base (Addr.add ⟨b,off,none⟩ (i*P.cellsOf e)) (P.cellsOf e)=some vs/\Rc σ (Here w) w d.cells vs) len (fun i hi=>by
    obtain⟨vs,y,h1,h2⟩:=key i hi;obtain⟨d,q1,q2,q3,q4⟩:=hel n vs y (by omega) h2;exact⟨d,q1,q2,q3,vs,h1,q4⟩)
   have at_:∀ (i:Nat) (d:D) (j:Nat) (c:D),es[i]?=some d->d.cells[j]?=some c->∃ x,w.cell? ⟨b,off+i*P.cellsOf e+j,none⟩=some x/\aV σ (Here w) w c x:=by
    intro i d j c h1 h2;obtain⟨_,q2,_,vs,q4,q5⟩:=hes i d h1;have hj:j<P.cellsOf e:=by rw[<-q2];exact(bE h2)
    have hc:=(uH q4).2 j hj;rw[add_plain,add_plain]at hc;have hvl:=(uH q4).1;have hv:vs[j]?=some (vs[j]'(by omega)):=List.getElem?_eq_getElem (by omega);exact⟨_,hc.trans hv,q5.2 j c _ h2 hv⟩
   refine⟨es,fun d hd => ?_,single ?_⟩
   ·obtain⟨i,hi⟩:=List.getElem?_of_mem hd;exact(hes i d hi).1
   ·rw[<-hlen];refine .s (fun i j=>(w.cell? ⟨b,off+i*P.cellsOf e+j,none⟩).getD undef) hb (by omega) ?_ ?_ ?_ ?_
    ·intro d hd;obtain⟨i,hi⟩:=List.getElem?_of_mem hd;exact(hes i d hi).2.1
    ·intro d hd;obtain⟨i,hi⟩:=List.getElem?_of_mem hd;exact(hes i d hi).2.2.1
    ·intro i d j c h1 h2;obtain⟨x,hx,_⟩:=at_ i d j c h1 h2;rw[hx];rfl
    ·intro i d j c h1 h2;obtain⟨x,hx,hr⟩:=at_ i d j c h1 h2;rw[hx];exact hr
theorem Rc.append {ds ds':List D}{vs vs':List Value}(h:Rc σ (Here w) w ds vs)(k:Rc σ (Here w) w ds' vs'):Rc σ (Here w) w (ds++ds') (vs++vs'):=by
 refine⟨by simp[h.1,k.1],fun i d x h1 h2 => ?_⟩;rcases Nat.lt_or_ge i ds.length with hi|hi
 ·rw[List.getElem?_append_left hi]at h1;rw[List.getElem?_append_left (by rw[h.1];exact hi)]at h2;exact h.2 i d x h1 h2
 ·rw[List.getElem?_append_right hi]at h1;rw[List.getElem?_append_right (by rw[h.1];exact hi),h.1]at h2;exact k.2 _ d x h1 h2
theorem kL {t:TypeId}{k:IntKind}{fuel:Nat}{cs:List Value}{x:DataW H × List MemPlace}{sp:Nat->Bool}(ht:P.underlying t=some (.int k))(h:DataW.trod enc P w base sp held fuel t cs=some x) :
  ∃ n:Int,(Lit.int k n).wf=true/\Rc σ (Here w) w [.v (.int k n)] cs:=by
 obtain⟨n,rfl,_,hw⟩:=DataW.trod_int ht h;refine⟨n,hw,rfl,fun i d x h1 h2 => ?_⟩
 match i with
 | 0=>cases h1;cases h2;exact .v _
 | i+1=>cases h1
theorem Bo {t:TypeId}{fuel:Nat}{cs:List Value}{x:DataW H × List MemPlace}{sp:Nat->Bool}(ht:P.underlying t=some .bool)(h:DataW.trod enc P w base sp held fuel t cs=some x) :
  ∃ b:Bool,Rc σ (Here w) w [.v (.bool b)] cs:=by
 obtain⟨b,rfl,_⟩:=DataW.trod_bool ht h;refine⟨b,rfl,fun i d x h1 h2 => ?_⟩
 match i with
 | 0=>cases h1;cases h2;exact .v _
 | i+1=>cases h1
end lift
end
end Fi
