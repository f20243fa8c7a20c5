/- Monomials sorted. -/
import Derived.Test.YtonmcbnjifeagaaGreatDoorCD
import Derived.Test.YtonmcbnjifeagaaGreatDoorFiH
import Derived.Shelf.SlSortCmp.NoneTotal
import Derived.Test.YtonmcbnjifeagaaGreatDoorCB
set_option linter.unusedVariables false
set_option linter.unusedSimpArgs false
noncomputable section
noncomputable section
namespace Fi.S
open Go Fi
set_option maxHeartbeats 8000000
def E2:Env:={fn:=fn,eZ:=fun _=>none,iY:=fun _=>none,iA:=fun _=>none,mn:=True}
theorem u6 (n:Nat)(x y:Int):CL E2 (n+60) 255 [.d (.v (.int .i64 x)),.d (.v (.int .i64 y))] []=some (.d (.v (.int .i64 (kJ x y))),none):=by
 have Hd:∀ m z,CL E2 (m+20) 282 [.d (.v (.int .i64 z))] []=some (.d (.v (.bool false)),none):=by
  intro m z;rw[ah rfl (k282:E2.fn _=_) rfl];simp -implicitDefEqProofs [f282]
 rw[ah rfl (k255:E2.fn _=_) rfl];unfold kJ
 by_cases h1:x<y
 ·simp -implicitDefEqProofs [f255,Hd,h1]
 ·by_cases h2:y<x
  ·simp -implicitDefEqProofs [f255,Hd,h1,h2]
  ·simp -implicitDefEqProofs [f255,Hd,h1,h2]
theorem ER (n:Nat)(d e:Int × Int × Int):CL E2 (n+200) 204 [.d (iG d),.d (iG e)] []=some (.d (.v (.int .i64 (gT d e))),none):=by
 obtain⟨a,b,c⟩:=d;obtain⟨a',b',c'⟩:=e;have c1:=fun m=>u6 m a' a
 have c2:=fun m=>u6 m b' b
 have c3:=fun m=>u6 m c' c
 rw[ah rfl (k204:E2.fn _=_) rfl];simp only[iG,gT];have w1:af .i64 1=1:=wrap_i64 (by omega);have w2:af .i64 2=2:=wrap_i64 (by omega);have w3:af .i64 3=3:=wrap_i64 (by omega);generalize kJ a' a=x,kJ b' b=y,kJ c' c=z at*
 by_cases h1:x=0
 ·subst h1
  by_cases h2:y=0
  ·subst h2
   by_cases h3:z=0
   ·subst h3;simp -implicitDefEqProofs [f204,aA,w1,w2,w3,c1,c2,c3]
   ·have e3:(z != 0)=true:=by simpa using h3
    simp -implicitDefEqProofs [f204,aA,w1,w2,w3,c1,c2,c3,e3]
  ·have e2:(y != 0)=true:=by simpa using h2
   simp -implicitDefEqProofs [f204,aA,w1,w2,w3,c1,c2,c3,e2,h2]
 ·have e1:(x != 0)=true:=by simpa using h1
  simp -implicitDefEqProofs [f204,aA,w1,w2,w3,c1,c2,c3,e1,h1]
def wX (e:Int × Int × Int)(x y z:D):D:=.a [.v (.int .i64 e.1),.v (.int .i64 e.2.1),.v (.int .i64 e.2.2),x,y,z]
theorem K9 (n:Nat)(d e:Int × Int × Int)(x y z x' y' z':D)(h:x.one=true/\y.one=true/\z.one=true/\x'.one=true/\y'.one=true/\z'.one=true) :
  CL E2 (n+300) 257 [.d (wX d x y z),.d (wX e x' y' z')] []=some (.d (.v (.int .i64 (gT d e))),none):=by
 have t:=fun m=>ER m d e
 rw[ah rfl (k257:E2.fn _=_) rfl];obtain⟨h1,h2,h3,h4,h5,h6⟩:=h;obtain⟨a,b,c⟩:=d;obtain⟨a',b',c'⟩:=e;simp only[wX,iG]at*;generalize gT (a,b,c) (a',b',c')=r at*;have hi:∀ k n,D.one (.v (.int k n))=true:=fun _ _=>rfl
 simp -implicitDefEqProofs [f257,t,h1,h2,h3,h4,h5,h6,hi,-D.one]
end Fi.S
namespace Fi.S
open Go Fi Go.Proofs
set_option maxHeartbeats 8000000
section
theorem yM (x y:Int):kJ x y<0↔x<y:=by
 unfold kJ
 by_cases h1:x<y
 ·simp[h1]
 ·by_cases h2:y<x<;>simp[h1,h2]
theorem qj (x y:Int):kJ x y=0↔x=y:=by
 unfold kJ
 by_cases h1:x<y
 ·simp[h1];omega
 ·by_cases h2:y<x
  ·simp[h1,h2];omega
  ·simp[h1,h2];omega
def iZ (d e:Int × Int × Int):Bool:=decide (gT d e<0)
theorem jy (d e:Int × Int × Int):iZ d e=true↔(e.1<d.1\/e.1=d.1/\(e.2.1<d.2.1\/e.2.1=d.2.1/\e.2.2<d.2.2)):=by
 unfold iZ gT;rw[decide_eq_true_iff]
 by_cases h1:kJ e.1 d.1=0
 ·rw[if_neg (by simp[h1])];rw[qj]at h1
  by_cases h2:kJ e.2.1 d.2.1=0
  ·rw[if_neg (by simp[h2])];rw[qj]at h2;rw[yM];omega
  ·rw[if_pos (by simpa using h2),yM];rw[qj]at h2;omega
 ·rw[if_pos (by simpa using h1),yM];rw[qj]at h1;omega
theorem jh {d e:Int × Int × Int}(h1:iZ d e=false)(h2:iZ e d=false):d=e:=by
 have a:¬ iZ d e=true:=by simp[h1]
 have b:¬ iZ e d=true:=by simp[h2]
 rw[jy]at a b;obtain⟨x,y,z⟩:=d;obtain⟨x',y',z'⟩:=e;simp only at a b;simp only[Prod.mk.injEq];omega
def OU:D->Bool
 | .a [.v (.int .i64 _),.v (.int .i64 _),.v (.int .i64 _),x,y,z]=>x.one&&y.one&&z.one
 | _=>false
def yN:D->Int × Int × Int
 | .a (.v (.int _ a)::.v (.int _ b)::.v (.int _ c)::_)=>(a,b,c)
 | _=>(0,0,0)
def qV (x y:D):Bool := !iZ (yN y) (yN x)
theorem OV {d:D}(h:OU d=true):∃ x y z,d=wX (yN d) x y z/\x.one=true/\y.one=true/\z.one=true:=by
 unfold OU at h;split at h
 ·simp only[Bool.and_eq_true]at h;exact⟨_,_,_,rfl,h.1.1,h.1.2,h.2⟩
 ·cases h
def u7 (es:List D):Bool:=es.all OU&&decide (es.map yN).Nodup&&decide (es.length<=100000000)
def yO (cmp:Nat)(args:List FV)(B:List ae):bz :=
 match args with
 | [.ls (.old i) az 6 0 n,.d (.fn g)]=>if g=cmp then(match B[i]? with
  | some (.row jQ 6 es)=>if az=jQ/\n=es.length/\u7 es=true then some (.d (.t []),some (B.set i (.row az 6 (es.mergeSort qV)))) else none
  | _=>none) else none
 | [.d (.n 6),.d (.fn g)]=>if g=cmp then some (.d (.t []),none) else none
 | _=>none
section any
variable {σ:Nat->Option FuncId} {β:Fi.Map} {I Wr:Nat->Prop} {w:World} {n:Nat} {H:List ae}
theorem aC.Tj {f:FV}{x:Value}(h:aC σ β I w n f x)(hd:∀ k v x,β k v=some x->k<n)(n':Nat):aC σ β I w n' f x:=by
 have abs:∀ (p:Ref) v x,β (p.abs n) v=some x->p.abs n=p.abs n':=by
  intro p v x hp;cases p with
  | loc i=>have:=hd _ _ _ hp;simp only[Ref.abs]at this;omega
  | old i=>rfl
 induction h with
 | u x=>exact .u x
 | d h=>exact .d h
 | r h=>exact .r (by rw[<-abs _ _ _ h];exact h)
 | e h=>exact .e (by rw[<-abs _ _ _ h];exact h)
 | rc hb ho h=>exact .rc hb ho h
 | ls h hl ho=>exact .ls (by rw[<-abs _ _ _ h];exact h) hl ho
 | m h=>exact .m (by rw[<-abs _ _ _ h];exact h)
 | f h h1 h2 _ _ ih1 ih2=>exact .f h h1 h2 ih1 ih2
 | a hl _ ih=>exact .a hl ih
 | t hl _ ih=>exact .t hl ih
theorem aB.Tj (h:aB σ H.length β I Wr (fun _=>True) H w)(n':Nat)(wd':Nat->Prop):aB σ n' β I Wr wd' H w :=
 h.Zj h.ja (fun k o b bo cap h1 h2 _=>(h.wr k o b bo cap h1 h2).1 trivial) (fun k cs b bo cap h1 h2 j f x h3 h4=>aC.Tj h4 h.dom n')
end any
section sort
variable {P:Program} {ρ:Shelf.Ren} {E:Env} {σ:Nat->Option FuncId}
theorem OW (hm:P.follows .mixedOrders=true)(hB:Bodies P E2 σ)(hF:mf P E2 σ)(hσ:σ 257=some 257)(d e:Int × Int × Int)(x y z x' y' z':Value)
  (h:qM x=true/\qM y=true/\qM z=true/\qM x'=true/\qM y'=true/\qM z'=true) (W:World) :
  Calls P 257 #[.agg #[.int .i64 d.1,.int .i64 d.2.1,.int .i64 d.2.2,x,y,z],.agg #[.int .i64 e.1,.int .i64 e.2.1,.int .i64 e.2.2,x',y',z']] W fun en w'=>en=.returned (.int .i64 (gT d e))/\∃ q os',w'=Sort.grow (W.drewN q) os':=by
 have hrun:=K9 0 d e (.v x) (.v y) (.v z) (.v x') (.v y') (.v z') h;rw[nW]at hrun;have rep:∀ (c:Int × Int × Int) (u v t:Value),aV σ (fun _=>False) W (wX c (.v u) (.v v) (.v t)) (.agg #[.int .i64 c.1,.int .i64 c.2.1,.int .i64 c.2.2,u,v,t]):=by
  intro c u v t;refine .a rfl (fun i a b ha hb => ?_)
  match i with
  | 0=>simp at ha hb;subst ha;subst hb;exact .v _
  | 1=>simp at ha hb;subst ha;subst hb;exact .v _
  | 2=>simp at ha hb;subst ha;subst hb;exact .v _
  | 3=>simp at ha hb;subst ha;subst hb;exact .v _
  | 4=>simp at ha hb;subst ha;subst hb;exact .v _
  | 5=>simp at ha hb;subst ha;subst hb;exact .v _
  | i+6=>simp at ha
 refine(Bp hm hB hF ⟨fun g p hp=>(by cases hp),fun g p hp=>(by cases hp)⟩ hrun hσ (I:=fun _=>False) (w:=W) (aU:=#[.agg #[.int .i64 d.1,.int .i64 d.2.1,.int .i64 d.2.2,x,y,z],.agg #[.int .i64 e.1,.int .i64 e.2.1,.int .i64 e.2.2,x',y',z']])
  (fun b hb=>hb.elim) ⟨rfl,fun i c v hc hv => ?_⟩ (fun k y hk=>by cases hk)).mono fun en w' ⟨v,u,I',he,hu,hr,hg⟩ => ?_
 ·match i with
  | 0=>simp at hc hv;subst hc;subst hv;exact .d (rep _ _ _ _)
  | 1=>simp at hc hv;subst hc;subst hv;exact .d (rep _ _ _ _)
  | i+2=>simp at hc
 ·cases hu;cases hr;exact⟨he,K_ hg⟩
end sort
end
end Fi.S
namespace Fi.S
open Go Fi Go.Proofs Go.Sort
set_option maxHeartbeats 8000000
section
section sort
variable {P:Program} {ρ:Shelf.Ren} {E:Env} {σ:Nat->Option FuncId}
theorem ES {β:Fi.Map}{I:Nat->Prop}{w:World}{n:Nat}{a b:FV}{aU:Array Value}(hA:fD σ β I w n [a,b] aU.toList):∃ x y,aU=#[x,y]/\aC σ β I w n a x/\aC σ β I w n b y:=by
 have hl:aU.toList.length=2:=hA.1
 match hvl:aU.toList,hl with
 | [x,y],_ =>
  exact⟨x,y,by apply Array.ext';rw[hvl],hA.2 0 _ x rfl (by rw[hvl];rfl),hA.2 1 _ y rfl (by rw[hvl];rfl)⟩
theorem yP {d:D}{I:Nat->Prop}{w:World}{x:Value}(h:aV σ I w d x)(ho:d.one=true):qM x=true:=by
 have:=h.oneCell ho;cases x<;>first|rfl|(simp[Value.oneCell']at this)
theorem OX (hm:P.follows .mixedOrders=true)(hB:Bodies P E2 σ)(hF:mf P E2 σ)(hσ:σ 257=some 257)(L:SlLaysF0.n6 P ρ)(hρ:ρ.f 6=256)(aE:∀ w,(isAgg (ρ.t 24)).run P w=.ok true w)(zE:∀ w,(Go.sizeOf (ρ.t 24)).run P w=.ok 6 w)
  (eg:∀ args w,(callFunc 257 args).run P w=.ok (.enter 257 args) w) {I:Nat->Prop} {w:World} {b bo cap:Nat} {es:List D} (hat:ji σ I w b bo cap 6 es) {c:Array Value} {e:TypeId} (hb:w.heap[b]?=some (.cells c e (0,0))) (hsz:c.size=bo+cap*6)
  (hok:u7 es=true) (hne:es≠[]) (Ym:¬ I b) (hI:∀ b,I b->b<w.heap.size) :
  Calls P 256 #[.slice (some ⟨b,bo,none⟩) es.length cap,.func (.func 257) #[] #[]] w fun en w'=>en=.returned (.tuple #[])/\w.heap.size<=w'.heap.size/\(∀ x,x<w.heap.size->x≠b->w'.heap[x]?=w.heap[x]?)/\w'.os=w.os/\w'.tape=w.tape/\w'.output=w.output/\w.drawn<=w'.drawn /\
   ∃ c',w'.heap[b]?=some (.cells c' e (0,0))/\c'.size=c.size/\ji σ I w' b bo cap 6 (es.mergeSort qV):=by
 simp only[u7,Bool.and_eq_true,decide_eq_true_eq]at hok;obtain⟨⟨hmo,hnd⟩,hlen⟩:=hok;have abF:∀ (i:Nat) (h:i<es.length),OU es[i]=true:=fun i h=>List.all_eq_true.1 hmo _ (List.getElem_mem h)
 have hn:0<es.length:=List.length_pos_iff.2 hne
 let val:Nat->Nat->Value:=fun i j=>(w.cell? ⟨b,bo+i*6+j,none⟩).getD undef
 have hval:∀ (i:Nat) (h:i<es.length) (j:Nat) (d:D),es[i].cells[j]?=some d->w.cell? ⟨b,bo+i*6+j,none⟩=some (val i j)/\aV σ I w d (val i j):=by
  intro i h j d hd;obtain⟨x,h1,h2⟩:=hat.at_ i es[i] (List.getElem?_eq_getElem h) j d hd;have:val i j=x:=by simp only[val,h1,Option.getD_some]
  rw[this];exact⟨h1,h2⟩
 have hshape:∀ (i:Nat) (h:i<es.length),val i 0=.int .i64 (yN es[i]).1/\val i 1=.int .i64 (yN es[i]).2.1/\val i 2=.int .i64 (yN es[i]).2.2/\qM (val i 3)=true/\qM (val i 4)=true/\qM (val i 5)=true/\es[i].cells.length=6:=by
  intro i h;obtain⟨x,y,z,h1,o1,o2,o3⟩:=OV (abF i h);have hv:=hval i h;rw[h1]at hv;generalize hme:yN es[i]=me at*;have a0:=(hv 0 _ rfl).2;have a1:=(hv 1 _ rfl).2;have a2:=(hv 2 _ rfl).2;have a3:=(hv 3 _ rfl).2;have a4:=(hv 4 _ rfl).2;have a5:=(hv 5 _ rfl).2;generalize val i 0=v0,val i 1=v1,val i 2=v2,val i 3=v3,val i 4=v4,val i 5=v5 at*;refine⟨?_,?_,?_,yP a3 o1,yP a4 o2,yP a5 o3,by rw[h1];rfl⟩
  ·cases a0;rfl
  ·cases a1;rfl
  ·cases a2;rfl
 haveI:Inhabited (Fin es.length):=⟨⟨0,hn⟩⟩
 let enc:Fin es.length->List Value:=fun i=>(List.range 6).map (val i.1)
 let cf:Fin es.length->Fin es.length->Int:=fun i j=>gT (yN es[i.1]) (yN es[j.1])
 have henc:∀ i:Fin es.length,enc i=[.int .i64 (yN es[i.1]).1,.int .i64 (yN es[i.1]).2.1,.int .i64 (yN es[i.1]).2.2,val i.1 3,val i.1 4,val i.1 5]:=by
  intro i;obtain⟨a0,a1,a2,_⟩:=hshape i.1 i.2;simp only[enc,show List.range 6=[0,1,2,3,4,5] from rfl,List.map_cons,List.map_nil,a0,a1,a2]
 have hlt:∀ i j:Fin es.length,ltOf cf i j=iZ (yN es[i.1]) (yN es[j.1]):=fun i j=>rfl
 have hO:SWO (ltOf cf):=by
  constructor
  ·intro x;rw[hlt,Bool.eq_false_iff,Ne,jy];omega
  ·intro x y z h1 h2;rw[hlt,jy]at*;omega
  ·intro x y z h1 h2;rw[hlt,Bool.eq_false_iff,Ne,jy]at*;omega
 have hT:∀ x y,(ltOf cf) x y=false->(ltOf cf) y x=false->x=y:=by
  intro x y h1 h2;rw[hlt]at h1 h2;have h3:=jh h1 h2;have h4:(es.map yN)[x.1]?=(es.map yN)[y.1]?:=by simp[h3]
  have:=(List.getElem?_inj (by simp) hnd).1 h4;exact Fin.ext this
 let d:Array (Fin es.length):=Array.finRange es.length
 have hds:d.size=es.length:=by simp[d]
 have hget:∀ i,i<es.length->(d[i]!).1=i:=by
  intro i hi;rw[getElem!_pos d i (by omega)];simp[d]
 have U_:∀ (dd:Array (Fin es.length)) (t:Nat),dd.size=es.length->t<es.length*6->(flatK enc 6 dd)[t]! = val (dd[t / 6]!).1 (t % 6):=by
  intro dd t h1 h2;rw[get_flatK enc 6 dd t (by rw[h1];exact h2)];have h3:t % 6<6:=Nat.mod_lt _ (by omega);simp only[enc];rw[getElem!_pos _ _ (by simpa using h3)];simp
 have hH:HoldsK enc 6 w b bo d:=by
  intro t ht;simp only[size_flatK,hds]at ht;have h6:t / 6<es.length:=by omega
  refine⟨?_,by simp[World.frozen?,hb]⟩;rw[U_ d t hds ht,hget _ h6];have hc6:=(hshape _ h6).2.2.2.2.2.2;have h3:t % 6<6:=Nat.mod_lt _ (by omega);have:=(hval (t / 6) h6 (t % 6) _ (List.getElem?_eq_getElem (by omega))).1;rw[show bo+t=bo+t / 6*6+t % 6 by omega];exact this
 have hcmp:CmpLays P 257 #[] enc 6 cf b bo d.size w:=by
  intro m os dk _ x y;rw[henc x,henc y];obtain⟨_,_,_,o3,o4,o5,_⟩:=hshape x.1 x.2;obtain⟨_,_,_,p3,p4,p5,_⟩:=hshape y.1 y.2;exact OW hm hB hF hσ _ _ _ _ _ _ _ _ ⟨o3,o4,o5,p3,p4,p5⟩ _
 have hcon:=AnyQ.slices_SortFunc_total L 6 aE zE enc (fun x=>by simp[enc]) (fun x v hv=>by
  rw[henc]at hv;obtain⟨_,_,_,o3,o4,o5,_⟩:=hshape x.1 x.2;simp only[List.mem_cons,List.not_mem_nil,or_false]at hv;rcases hv with rfl|rfl|rfl|rfl|rfl|rfl
  ·rfl
  ·rfl
  ·rfl
  ·revert o3;generalize val x.1 3=v;intro o3;cases v<;>first|rfl|(simp[qM]at o3)
  ·revert o4;generalize val x.1 4=v;intro o3;cases v<;>first|rfl|(simp[qM]at o3)
  ·revert o5;generalize val x.1 5=v;intro o3;cases v<;>first|rfl|(simp[qM]at o3)) cf hO 257 #[] b bo cap d w eg hcmp hH (Array.getElem?_eq_some_iff.1 hb).1 (by rw[hds];omega) hT
 rw[hρ,hds]at hcon;refine hcon.mono fun en w' ⟨he,m,os,hw⟩=>⟨he,?_⟩
 subst hw;generalize hdd:(d.toList.mergeSort fun x y => !(ltOf cf) y x)=l;have hperm:l.Perm d.toList:=by rw[<-hdd];exact List.mergeSort_perm _ _
 have hll:l.length=es.length:=by rw[hperm.length_eq];simpa using hds
 have hmap:es.mergeSort qV=l.map fun i=>es[i.1]:=by
  have h1:=List.map_mergeSort (r:=fun x y => !(ltOf cf) y x) (f:=fun i:Fin es.length=>es[i.1]) (s:=qV) (l:=d.toList) (fun a _ b _=>rfl);rw[hdd]at h1;rw[h1]
  congr 1
  apply List.ext_getElem
  ·simp[d]
  ·intro i h1 h2;simp[d]
 have hblt:b<w.heap.size:=(Array.getElem?_eq_some_iff.1 hb).1;have hhp:∀ x,x<w.heap.size->(sortWorldK enc 6 w b bo m l.toArray os).heap[x]?=(w.heap.modify b (onCells (putCells id bo (flatK enc 6 l.toArray))))[x]?:=by
  intro x hx;show((w.heap.modify b (onCells (putCells id bo (flatK enc 6 l.toArray))))++os)[x]?=_;rw[Array.getElem?_append_left (by simpa using hx)]
 have hbb:(sortWorldK enc 6 w b bo m l.toArray os).heap[b]?=some (.cells (putCells id bo (flatK enc 6 l.toArray) c) e (0,0)):=by
  rw[hhp b hblt,Array.getElem?_modify,if_pos rfl,hb];rfl
 refine⟨?_,?_,rfl,rfl,rfl,?_,putCells id bo (flatK enc 6 l.toArray) c,hbb,by simp[putCells],?_⟩
 ·show _<=((w.heap.modify b _)++os).size;simp
 ·intro x hx hxb;rw[hhp x hx,Array.getElem?_modify,if_neg (Ne.symm hxb)]
 ·show w.drawn<=w.drawn+m;omega
 ·have hmem:∀ e ∈ es.mergeSort qV,e ∈ es:=fun e he=>(List.mergeSort_perm es qV).mem_iff.1 he
  refine⟨hat.pos,by rw[List.length_mergeSort];exact hat.fit,fun e he=>hat.wide e (hmem e he),fun e he=>hat.one e (hmem e he),?_⟩;intro i ee hi j dd hj;rw[hmap,List.getElem?_map,Option.map_eq_some_iff]at hi;obtain⟨k,hk,rfl⟩:=hi;have hil:i<es.length:=by rw[<-hll];exact(bE hk)
  have hj6:j<6:=by have:=(bE hj);rw[(hshape k.1 k.2).2.2.2.2.2.2]at this;exact this
  obtain⟨g1,g2⟩:=hval k.1 k.2 j dd hj;refine⟨val k.1 j,?_,g2.mono (fun _ h=>h) (fun x hx => ?_)⟩
  ·have hfit:=hat.fit;have ht:i*6+j<es.length*6:=by omega
   have hcs:bo+(i*6+j)<c.size:=by rw[hsz];omega
   simp only[World.cell?,hbb];show(putCells id bo (flatK enc 6 l.toArray) c)[bo+i*6+j]?=_;rw[Nat.add_assoc];simp only[putCells,Array.getElem?_mapIdx,Array.getElem?_eq_getElem hcs,Option.map_some];rw[if_pos ⟨by omega,by simp[hll];omega⟩];simp only[id,show bo+(i*6+j)-bo=i*6+j by omega];rw[U_ l.toArray _ (by simpa using hll) ht];have h1:(i*6+j) / 6=i:=by omega
   have h2:(i*6+j) % 6=j:=by omega
   rw[h1,h2];have h3:l.toArray[i]! = k:=by
    rw[getElem!_pos l.toArray i (by simpa[hll] using hil)];have:=(List.getElem?_eq_some_iff.1 hk).2;simpa using this
   rw[h3]
  ·have hxb:x≠b:=fun h=>Ym (h ▸ hx)
   rw[hhp x (hI x hx),Array.getElem?_modify,if_neg (Ne.symm hxb)]
end sort
end
section
section sort
variable {P:Program} {ρ:Shelf.Ren} {E:Env} {σ:Nat->Option FuncId}
theorem Tk (hm:P.follows .mixedOrders=true)(hB:Bodies P E2 σ)(hF:mf P E2 σ)(hσ:σ 257=some 257)(L:SlLaysF0.n6 P ρ)(hρ:ρ.f 6=256)(aE:∀ w,(isAgg (ρ.t 24)).run P w=.ok true w)(zE:∀ w,(Go.sizeOf (ρ.t 24)).run P w=.ok 6 w)
  (eg:∀ args w,(callFunc 257 args).run P w=.ok (.enter 257 args) w) (hf6:∀ f,σ 256=some f->f=256) (args:List FV) (B:List ae) (r:FV × Option (List ae)) (h:yO 257 args B=some r):oQ P E σ 256 args B r:=by
 have hfn:∀ {I:Nat->Prop} {w:World} {y:Value} {β:Fi.Map} {n:Nat},aC σ β I w n (.d (.fn 257)) y->y=.func (.func 257) #[] #[]:=by
  intro I w y β n hy;cases hy with
  | d hy =>
   cases hy with
   | fn hs=>rw[hσ]at hs;cases hs;rfl
 have none:∀ (p:Option Addr) (cap:Nat) (w:World),Calls P 256 #[.slice p 0 cap,.func (.func 257) #[] #[]] w fun e w'=>e=.returned (.tuple #[])/\w'=w:=by
  intro p cap w;have:=AnyF.slices_SortFunc_none L p cap (.func (.func 257) #[] #[]) w;rw[hρ]at this;exact this
 have hnil:∀ (I:Nat->Prop) (w:World),aV σ I w (.t []) (.tuple #[]):=fun I w=>.t rfl (fun i c x hc=>by simp at hc)
 unfold yO at h;split at h
 ·rename_i i az n g;split at h
  ·rename_i hg;subst hg;split at h
   ·rename_i jQ es Dc;split at h
    ·rename_i hh;obtain⟨rfl,rfl,hok⟩:=hh;cases h;intro f hf β I Wr w aU hS hA hG;obtain rfl:=hf6 f hf;obtain⟨x,y,rfl,hx,hy⟩:=ES hA;have hy':=hfn hy;subst hy';obtain⟨b,bo,cap,o,hβ,hlc,Gt,rfl⟩:=yQ hx;simp only[Ref.abs]at hβ;obtain⟨hat,c,e,hb,hcs⟩:=hS.row i az 6 es b bo cap Dc hβ;have hwr:=hS.wr i (.row az 6 es) b bo cap Dc hβ;have hil:i<B.length:=(bE Dc)
     by_cases hne:es=[]
     ·subst hne;refine(none (some ⟨b,o,.none⟩) (cap-0) w).mono fun en w' ⟨he,hw⟩ => ?_
      subst hw;have hset:B.set i (.row az 6 (([]:List D).mergeSort qV))=B:=by
       apply List.ext_getElem?;intro j;rw[List.getElem?_set];split
       ·rename_i hij;subst hij;rw[Dc,List.mergeSort_nil]
       ·rfl
      refine⟨_,β,I,he,Ext.refl _ _ _ _,fun n' wd' => ?_,fun n'=>.d (hnil _ _)⟩;have:=aB.Tj hS n' wd';rw[<-hset]at this;simpa using this
     ·have hpos:0<es.length:=List.length_pos_iff.2 hne;have ho:o=bo:=by have:=Gt (by omega);omega
      subst ho;have hcap:cap-0=cap:=Nat.sub_zero _;rw[hcap];refine(OX hm hB hF hσ L hρ aE zE eg hat hb hcs hok hne hwr.2 hS.jc).mono fun en w' ⟨he,h1,h2,h3,h4,h5,h6,c',h7,h8,h9⟩ => ?_
      obtain⟨k1,k2⟩:=hS.upd (mn:=E.mn) (Va:=trivial) (w':=w') Dc (show(ae.row az 6 es).live β i=some (b,o,cap) from hβ) (.row az 6 (es.mergeSort qV)) az b o cap h1 h2 (.inl rfl)
       (Nat.lt_of_lt_of_le (hS.blt _ _ _ _ _ hβ) h1) (fun z hz=>by rw[hβ]at hz;cases hz;rfl) h3 h4 h5 (fun _=>h6)
       (.inr (.inl ⟨6,es.mergeSort qV,c',e,rfl,fun v z hz=>hS.kM _ _ _ _ _ _ Dc hz,h7,by rw[h8,hcs],h9⟩))
      refine⟨_,_,I,he,k1,fun n' wd' => ?_,fun n'=>.d (hnil _ _)⟩;have hl:(B.set i (.row az 6 (es.mergeSort qV))).length=B.length:=by simp
      rw[<-hl]at k2;exact aB.Tj k2 n' wd'
    ·cases h
   ·cases h
  ·cases h
 ·rename_i g;split at h
  ·rename_i hg;subst hg;cases h;intro f hf β I w aU hS hA hG;obtain rfl:=hf6 f hf;obtain⟨x,y,rfl,hx,hy⟩:=ES hA;have hy':=hfn hy;subst hy';rw[lD hx];refine(none .none 0 w).mono fun en w' ⟨he,hw⟩ => ?_
   subst hw;exact⟨_,_,I,he,rfl,hnil _ _,fun b h=>h,fun b h=>.inl h,hS.jc,Nat.le_refl _,fun _ _=>rfl,rfl,rfl,rfl,fun _=>Nat.le_refl _⟩
  ·cases h
 ·cases h
end sort
end
end Fi.S
noncomputable section
namespace Fi.S
open Go Fi
set_option maxHeartbeats 8000000
def E3:Env:={fn:=fn,eZ:=eZ,iY:=yR,iA:=fun g=>bif Nat.beq g 256 then some (yO 257) else none}
theorem Ws:E0.Le E3:=⟨rfl,rfl,rfl,fun g p hp=>by cases hp⟩
def qC (e:Int × Int × Int)(x:Rat):D:=wX e (.v (.bool (qs x))) (LD (qn x)) (LD (qd x))
def mg (out:FV)(L:List ae)(es:List D):Prop:=(out=.d (.n 6)/\es=[])\/∃ i az,out=.ls (.loc i) az 6 0 es.length/\L[i]?=some (.row az 6 es)
def OY:aD:=(.seq (.region [⟨false,none,.load true 3 (.var 4)⟩,⟨false,none,.call 134 [(.loc 0)]⟩,⟨false,none,.bin .neq (.loc 1) (.c (.v (.int .i64 0)))⟩] [(7,2)] []) (.cond (.var 7) (.region [⟨false,none,.bM (.var 2)⟩,⟨false,none,.load true 3 (.var 3)⟩,⟨false,none,.load true 3 (.var 4)⟩,⟨false,none,.build [(.v (.int .i64 0)),(.v (.int .i64 0)),(.v (.int .i64 0)),(.v (.bool false)),(.n 1),(.n 1)] [(0,3,(.loc 1)),(3,3,(.loc 2))]⟩,⟨false,none,.lit 6 true [(.v (.int .i64 0)),(.v (.int .i64 0)),(.v (.int .i64 0)),(.v (.bool false)),(.s 1 []),(.s 1 [])] 1 [(0,(.loc 3))]⟩,⟨false,none,.app 6 80 (.loc 0) (.loc 4)⟩,⟨false,none,.bM (.loc 5)⟩] [(2,6)] []) .skip))
def JJ:aD:=(.seq (.region [⟨false,none,.bM (.var 2)⟩,⟨false,none,.mh 256 [(.loc 0),(.c (.fn 257))]⟩] [] []) (.seq (.region [⟨false,none,.bM (.var 2)⟩,⟨false,none,.bM (.loc 0)⟩] [(1,1)] []) .ret))
def ou (m res out k1 k2 p b1 b2:FV)(L:List ae):St:=(st0 [m,res,out,k1,k2,p,b1,b2] L)
theorem Tm (e:Int × Int × Int)(x:Rat)(hx:qz x<=100000000)(m p b1 b2 out:FV)(k1 k2:Nat)(L:List ae)(es:List D)(ho:mg out L es)(hn:es.length<=100000000)
  (h1:L[k1]?=some (.box [.d (.v (.int .i64 e.1)),.d (.v (.int .i64 e.2.1)),.d (.v (.int .i64 e.2.2))])) (h2:L[k2]?=some (.box [.d (.v (.bool (qs x))),.d (LD (qn x)),.d (LD (qd x))])) :
  ∃ N out' L' b2',EX E3 N OY (ou m .u out (.r (.loc k1) 0) (.r (.loc k2) 0) p b1 b2 L)=some (.norm,ou m .u out' (.r (.loc k1) 0) (.r (.loc k2) 0) p b1 b2' L')/\mg out' L' (es++if x=0 then [] else [qC e x]):=by
 obtain⟨N,t⟩:=(Ca.up Ws (sS x hx)).get;have hs:x=0↔x.num.sign=0:=by rw[Int.sign_eq_zero_iff_zero,Rat.num_eq_zero]
 obtain⟨a,b,c⟩:=e;simp only[qC,wX,qD,raw]at*;generalize qs x=s at*;simp only[LD]at*;generalize LL (qn x)=ns,LL (qd x)=ds at*;refine⟨N+60,?_⟩
 by_cases h0:x=0
 ·have hz:x.num.sign=0:=hs.1 h0;rw[hz]at t;refine⟨out,L,.d (.v (.bool false)),?_,by rw[if_pos h0,List.append_nil];exact ho⟩;simp -implicitDefEqProofs [ou,OY,h1,h2,t]
 ·have hz:x.num.sign≠0:=fun h=>h0 (hs.2 h)
  have hz':(x.num.sign != 0)=true:=by simpa using hz
  generalize x.num.sign=sg at*;rw[if_neg h0];rcases ho with ⟨rfl,rfl⟩|⟨i,az,rfl,hrow⟩
  ·refine⟨.ls (.loc L.length) 0 6 0 1,L++[.row 0 6 [.a [.v (.int .i64 a),.v (.int .i64 b),.v (.int .i64 c),.v (.bool s),.s 1 ns,.s 1 ds]]],.d (.v (.bool true)),?_,.inr ⟨L.length,0,rfl,by simp⟩⟩;simp -implicitDefEqProofs [ou,OY,h1,h2,t,hz,hz',most]
  ·have hm1:(es.length+1)*80<=1099511627776:=by omega
   have hm2:es.length+1<=1099511627776:=by omega
   have hil:i<L.length:=(bE hrow)
   refine⟨.ls (.loc i) (az+1) 6 0 (es.length+1),L.set i (.row (az+1) 6 (es++[.a [.v (.int .i64 a),.v (.int .i64 b),.v (.int .i64 c),.v (.bool s),.s 1 ns,.s 1 ds]])),.d (.v (.bool true)),?_,.inr ⟨i,az+1,by simp,by simp[hil]⟩⟩;simp -implicitDefEqProofs [ou,OY,h1,h2,hrow,t,hz,hz',most,hm1,hm2]
theorem Wt (m k1 k2 p b1 b2 out:FV)(L:List ae)(es:List D)(ho:mg out L es)(hok:u7 es=true) :
  ∃ N out' L' aQ,EX E3 N JJ (ou m .u out k1 k2 p b1 b2 L)=some (.ret,{vars:=[m,out',out',k1,k2,p,b1,b2],base:=[],loc:=L',aQ:=aQ})/\mg out' L' (es.mergeSort qV):=by
 rcases ho with ⟨rfl,rfl⟩|⟨i,az,rfl,hrow⟩
 ·have hs:∀ k,CL E3 k 256 [.d (.n 6),.d (.fn 257)] (List.map (ae.ag 0) L)=some (.d (.t []),none):=fun k=>by
   rw[yS (p:=yO 257) rfl (Zk:E3.fn _=_) rfl];rfl
  refine⟨60,.d (.n 6),L,false,?_,.inl ⟨rfl,by simp⟩⟩;simp -implicitDefEqProofs [ou,JJ,hs,FV.ag,FV.aK]
 ·have hs:∀ k,CL E3 k 256 [.ls (.old i) az 6 0 es.length,.d (.fn 257)] (List.map (ae.ag 0) L)=some (.d (.t []),some ((List.map (ae.ag 0) L).set i (.row az 6 (es.mergeSort qV)))):=fun k=>by
   have hB:(List.map (ae.ag 0) L)[i]?=some (.row az 6 es):=by simp[hrow,ae.ag]
   rw[yS (p:=yO 257) rfl (Zk:E3.fn _=_) rfl];simp[yO,hB,hok]
  have hil:i<L.length:=(bE hrow)
  refine⟨60,.ls (.loc i) az 6 0 es.length,(List.map (ae.ag 0) L).set i (.row az 6 (es.mergeSort qV)),false,?_,.inr ⟨i,az,by simp,by simp[hil]⟩⟩;simp -implicitDefEqProofs [ou,JJ,hs,FV.ag,FV.aK]
end Fi.S
