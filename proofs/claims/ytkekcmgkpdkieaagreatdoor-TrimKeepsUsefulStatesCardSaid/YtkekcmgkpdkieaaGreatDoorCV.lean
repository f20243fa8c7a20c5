import Derived.Test.YtkekcmgkpdkieaaGreatDoorSChk
import Derived.Test.YtkekcmgkpdkieaaGreatDoorCH
import Derived.Shelf.SlSortCmp.NoneTotal
set_option linter.unusedVariables false
set_option linter.unusedSimpArgs false
noncomputable section
namespace Fi.S
open Go Fi Go.Proofs
set_option maxHeartbeats 8000000
set_option maxRecDepth 10000
def f1100:bI:=by
 have:fo Tryz.prog c1100 Tryz.f81=some ?F:=by conv=>lhs;reduce;try dsimp
 exact ?F
def jV:bI:={f1100 with ref:=false}
def ab5:Cx:={c1100 with isRef:=false}
theorem ab6:fo Tryz.prog c1098 Tryz.f78=some f1098:=by kernel_rfl
theorem ab7:fo Tryz.prog c1100 Tryz.f81=some f1100:=by kernel_rfl
theorem ab8:fo Tryz.prog ab5 Tryz.f81=some jV:=by kernel_rfl
def EK (F:bI)(k:Nat):Env:={fn:=fun g=>bif Nat.beq g k then some F else none,dU:=fun _=>none,iK:=fun _=>none,iC:=fun _=>none}
theorem xP {F:bI}{k:Nat}(hk:(no.any fun n=>Nat.beq n k)=false):Bodies Tryz.prog (EK F k) sig:=by
 refine bodies _ ?_;unfold jW;rw[Qf0];intro g hg;have:Nat.beq g k=false:=by
  cases hb:Nat.beq g k with
  | false=>rfl
  | true =>
   have:(no.any fun n=>Nat.beq n k)=true:=Xb1.2 ⟨g,hg,hb⟩;rw[hk]at this;cases this
 simp[EK,this]
theorem BJ {F:bI}{k:Nat}:iA Tryz.prog (EK F k) sig:=⟨fun g p hp=>(by cases hp),fun g p hp=>(by cases hp)⟩
theorem Yj (k:Nat):CL (EK f1098 1098) (k+60) 1098 [.d (.n 1)] []=some (.d (.s 1 []),none)/\CL (EK f1098 1098) (k+60) 1098 [.z 1] []=some (.d (.s 1 []),none):=by
 rw[aB rfl (show(EK f1098 1098).fn 1098=some f1098 from rfl) rfl,aB rfl (show(EK f1098 1098).fn 1098=some f1098 from rfl) rfl];constructor<;>simp[f1098,ai.view]
theorem T9 (k:Nat)(e:D)(es:List D)(h:(e::es).length<=1000000):CL (EK f1098 1098) (k+60) 1098 [.d (.s 1 (e::es))] []=some (.d (.s 1 (e::es)),none):=by
 rw[aB rfl (show(EK f1098 1098).fn 1098=some f1098 from rfl) rfl];have h1:(e::es).length*8<=most:=by unfold most;omega
 have h2:(e::es).length<=most:=by unfold most;omega
 simp only[Qf2]at h1 h2;simp[f1098,h1,h2,ai.view]
theorem Yk (k:Nat):CL (EK jV 1100) (k+60) 1100 [.d (.n 11)] []=some (.d (.s 11 []),none)/\CL (EK jV 1100) (k+60) 1100 [.z 11] []=some (.d (.s 11 []),none):=by
 rw[aB rfl (show(EK jV 1100).fn 1100=some jV from rfl) rfl,aB rfl (show(EK jV 1100).fn 1100=some jV from rfl) rfl];constructor<;>simp[jV,f1100,ai.view]
theorem T_ (k:Nat)(e:D)(es:List D)(h:(e::es).length<=1000000):CL (EK jV 1100) (k+60) 1100 [.d (.s 11 (e::es))] []=some (.d (.s 11 (e::es)),none):=by
 rw[aB rfl (show(EK jV 1100).fn 1100=some jV from rfl) rfl];have h1:(e::es).length*152<=most:=by unfold most;omega
 have h2:(e::es).length<=most:=by unfold most;omega
 simp only[Qf2]at h1 h2;simp[jV,f1100,h1,h2,ai.view]
theorem Ua (k:Nat)(e:D)(es:List D)(B:List ai)(h:(e::es).length<=1000000):CL (EK f1100 1100) (k+60) 1100 [.d (.s 11 (e::es))] B=some (.ls (.old B.length) 1 11 0 (e::es).length,some (B.map (ai.aA B.length)++[.row 1 11 (e::es)])):=by
 rw[aB rfl (show(EK f1100 1100).fn 1100=some f1100 from rfl) rfl];have h1:(e::es).length*152<=most:=by unfold most;omega
 have h2:(e::es).length<=most:=by unfold most;omega
 simp only[Qf2]at h1 h2;simp[f1100,h1,h2,FV.aA,ai.aA]
theorem KZ {F:bI}{k j:Nat}{fn:Func}{cx:Cx}(hk:fo Tryz.prog cx fn=some F)(hf:Tryz.prog.funcs[j]?=some fn)(hj:tab[j]?=some k)(hc:cx.gid=ab9 tab):mi Tryz.prog (EK F k) sig:=by
 intro g F' h
 change (bif Nat.beq g k then some F else none)=some F' at h
 exact ab_ (fun hg hF=>ahh nodup wh hg hF hk hf hj hc) h
theorem gZ.heap {P:Program}{E:Env}{σ:Nat->Option FuncId}{g:Nat}{args:List FV}{ds:List D}{v:FV}(h:gZ P E σ g args [] (v,none))(ha:kT args=some ds)(B:List ai):gZ P E σ g args B (v,none):=by
 intro f hf β I w bn hS hA hG;exact h f hf (fun _ _=>none) I w bn (.empty _ hS.kR (fun _ h=>h)) (wo ha hA _ _) hG
theorem O1 {E:Env}(hg:E.dU=fun _=>none)(Ub:¬ E.mn){args:List FV}{ds:List D}{v:D}(ha:kT args=some ds)(hv:xN 1 ds=some v):gZ Tryz.prog E sig 1098 args [] (.d v,none):=by
 have hr:=Yj 0;simp only[iZ]at hr;refine II (E:=EK f1098 1098) mixed (xP (by kernel_rfl)) (KZ ab6 Tryz.func78 rfl rfl) BJ (N:=60) hr.1 hr.2 (fun e es h => ?_) (by rw[hg];rfl) ?_ ha hv
 ·have:=T9 0 e es h;rw[iZ]at this;exact this
 ·exact propext ⟨fun h=>absurd h Ub,fun h=>h.elim⟩
theorem O3 {E:Env}(hg:E.dU=fun _=>none)(Ub:¬ E.mn){args:List FV}{B:List ai}{r:FV × Option (List ai)}(h:qK 11 args B=some r):gZ Tryz.prog E sig 1100 args B r:=by
 have he:E.mn=(EK f1100 1100).mn:=propext ⟨fun h=>absurd h Ub,fun h=>h.elim⟩;unfold qK at h;split at h
 ·rename_i dY;split at h
  ·rename_i hsz;subst hsz;cases h;have hr:=Yk 0;simp only[iZ]at hr;refine gZ.heap (ds:=[.s 11 []]) ?_ rfl B;refine II (E:=EK jV 1100) mixed (xP (by kernel_rfl)) (KZ ab8 Tryz.func81 rfl rfl) BJ (N:=60) hr.1 hr.2 (fun e es h => ?_) (by rw[hg];rfl) he (ds:=[.s 11 []]) rfl rfl;have:=T_ 0 e es h;rw[iZ]at this;exact this
  ·cases h
 ·rename_i dY e es;split at h
  ·rename_i hh;obtain⟨rfl,hl⟩:=hh;cases h;have hr:=Ua 0 e es B hl;rw[iZ]at hr;intro f hf β I Wr w bn hS hA hG;have hG':dE (EK f1100 1100) sig I w:=fun j y hy=>by cases hy
   have:=(pE mixed (xP (F:=f1100) (k:=1100) (by kernel_rfl)) (KZ ab7 Tryz.func81 rfl rfl) BJ 60 1100 _ B _ hr).2 f hf β I Wr w bn hS hA hG';rw[he];exact this
  ·cases h
 ·cases h
end Fi.S
namespace Fi.S
open Go Fi Go.Proofs Go.Sort
set_option maxHeartbeats 8000000
set_option maxRecDepth 100000
section
section sort
variable {P:Program} {ρ:Shelf.Ren} {E:Env} {σ:Nat->Option FuncId} {gS gL:FuncId}
theorem Uc (hm:P.follows .mixedOrders=true)(hB:Bodies P E2 σ)(hF:mi P E2 σ)(hσ:σ 257=some gL)(d e:Int × Int × Int)(x y z x' y' z':Value)
  (h:sZ x=true/\sZ y=true/\sZ z=true/\sZ x'=true/\sZ y'=true/\sZ z'=true) (W:World) :
  Calls P gL #[.agg #[.int .i64 d.1,.int .i64 d.2.1,.int .i64 d.2.2,x,y,z],.agg #[.int .i64 e.1,.int .i64 e.2.1,.int .i64 e.2.2,x',y',z']] W fun en w'=>en=.returned (.int .i64 (iE d e))/\∃ q os',w'=Sort.grow (W.drewN q) os':=by
 have hrun:=Oe 0 d e (.v x) (.v y) (.v z) (.v x') (.v y') (.v z') h;rw[iZ]at hrun;have rep:∀ (c:Int × Int × Int) (u v t:Value),bB σ (fun _=>False) W (Hw c (.v u) (.v v) (.v t)) (.agg #[.int .i64 c.1,.int .i64 c.2.1,.int .i64 c.2.2,u,v,t]):=by
  intro c u v t;refine .a rfl (fun i a b ha hb => ?_)
  match i with
  | 0=>simp at ha hb;subst ha;subst hb;exact .v _
  | 1=>simp at ha hb;subst ha;subst hb;exact .v _
  | 2=>simp at ha hb;subst ha;subst hb;exact .v _
  | 3=>simp at ha hb;subst ha;subst hb;exact .v _
  | 4=>simp at ha hb;subst ha;subst hb;exact .v _
  | 5=>simp at ha hb;subst ha;subst hb;exact .v _
  | i+6=>simp at ha
 refine(El hm hB hF ⟨fun g p hp=>(by cases hp),fun g p hp=>(by cases hp)⟩ hrun hσ (I:=fun _=>False) (w:=W) (bn:=#[.agg #[.int .i64 d.1,.int .i64 d.2.1,.int .i64 d.2.2,x,y,z],.agg #[.int .i64 e.1,.int .i64 e.2.1,.int .i64 e.2.2,x',y',z']])
  (fun b hb=>hb.elim) ⟨rfl,fun i c v hc hv => ?_⟩ (fun k y hk=>by cases hk)).mono fun en w' ⟨v,u,I',he,hu,hr,hg⟩ => ?_
 ·match i with
  | 0=>simp at hc hv;subst hc;subst hv;exact .d (rep _ _ _ _)
  | 1=>simp at hc hv;subst hc;subst hv;exact .d (rep _ _ _ _)
  | i+2=>simp at hc
 ·cases hu;cases hr;exact⟨he,O4 hg⟩
end sort
section sort
variable {P:Program} {ρ:Shelf.Ren} {E:Env} {σ:Nat->Option FuncId} {gS gL:FuncId}
theorem IJ {β:Fi.Map}{I:Nat->Prop}{w:World}{n:Nat}{a b:FV}{bn:Array Value}(hA:fO σ β I w n [a,b] bn.toList):∃ x y,bn=#[x,y]/\aI σ β I w n a x/\aI σ β I w n b y:=by
 have hl:bn.toList.length=2:=hA.1
 match hvl:bn.toList,hl with
 | [x,y],_ =>
  exact⟨x,y,by apply Q01;rw[hvl],hA.2 0 _ x rfl (by rw[hvl];rfl),hA.2 1 _ y rfl (by rw[hvl];rfl)⟩
theorem BK {d:D}{I:Nat->Prop}{w:World}{x:Value}(h:bB σ I w d x)(ho:d.one=true):sZ x=true:=by
 have:=h.oneCell ho;cases x<;>first|rfl|(simp[Value.oneCell']at this)
theorem Ud (hm:P.follows .mixedOrders=true)(hB:Bodies P E2 σ)(hF:mi P E2 σ)(hσ:σ 257=some gL)(L:SlLaysF0.n6 P ρ)(hρ:ρ.f 6=gS)(aE:∀ w,(isAgg (ρ.t 24)).run P w=.ok true w)(zE:∀ w,(Go.sizeOf (ρ.t 24)).run P w=.ok 6 w)
  (eg:∀ args w,(callFunc gL args).run P w=.ok (.enter gL args) w) {I:Nat->Prop} {w:World} {b bo cap:Nat} {es:List D} (hat:iH σ I w b bo cap 6 es) {c:Array Value} {e:TypeId} (hb:w.heap[b]?=some (.cells c e (0,0))) (hsz:c.size=bo+cap*6)
  (hok:xD es=true) (hne:es≠[]) (ZV:¬ I b) (hI:∀ b,I b->b<w.heap.size) :
  Calls P gS #[.slice (some ⟨b,bo,none⟩) es.length cap,.func (.func gL) #[] #[]] w fun en w'=>en=.returned (.tuple #[])/\w.heap.size<=w'.heap.size/\(∀ x,x<w.heap.size->x≠b->w'.heap[x]?=w.heap[x]?)/\w'.os=w.os/\w'.tape=w.tape/\w'.output=w.output/\w.drawn<=w'.drawn /\
   ∃ c',w'.heap[b]?=some (.cells c' e (0,0))/\c'.size=c.size/\iH σ I w' b bo cap 6 (es.mergeSort tJ):=by
 simp only[xD,Qa2,decide_eq_true_eq]at hok;obtain⟨⟨hmo,hnd⟩,hlen⟩:=hok;have ahi:∀ (i:Nat) (h:i<es.length),RZ es[i]=true:=fun i h=>Qf0.1 hmo _ (Qj1 h)
 have hn:0<es.length:=Xf1.2 hne
 let val:Nat->Nat->Value:=fun i j=>(w.cell? ⟨b,bo+i*6+j,none⟩).getD undef
 have hval:∀ (i:Nat) (h:i<es.length) (j:Nat) (d:D),es[i].cells[j]?=some d->w.cell? ⟨b,bo+i*6+j,none⟩=some (val i j)/\bB σ I w d (val i j):=by
  intro i h j d hd;obtain⟨x,h1,h2⟩:=hat.at_ i es[i] (Qa1 h) j d hd;have:val i j=x:=by simp only[val,h1,Q31]
  rw[this];exact⟨h1,h2⟩
 have hshape:∀ (i:Nat) (h:i<es.length),val i 0=.int .i64 (A7 es[i]).1/\val i 1=.int .i64 (A7 es[i]).2.1/\val i 2=.int .i64 (A7 es[i]).2.2/\sZ (val i 3)=true/\sZ (val i 4)=true/\sZ (val i 5)=true/\es[i].cells.length=6:=by
  intro i h;obtain⟨x,y,z,h1,o1,o2,o3⟩:=R3 (ahi i h);have hv:=hval i h;rw[h1]at hv;generalize hme:A7 es[i]=me at*;have a0:=(hv 0 _ rfl).2;have a1:=(hv 1 _ rfl).2;have a2:=(hv 2 _ rfl).2;have a3:=(hv 3 _ rfl).2;have a4:=(hv 4 _ rfl).2;have a5:=(hv 5 _ rfl).2;generalize val i 0=v0,val i 1=v1,val i 2=v2,val i 3=v3,val i 4=v4,val i 5=v5 at*;refine⟨?_,?_,?_,BK a3 o1,BK a4 o2,BK a5 o3,by rw[h1];rfl⟩
  ·cases a0;rfl
  ·cases a1;rfl
  ·cases a2;rfl
 haveI:Inhabited (Fin es.length):=⟨⟨0,hn⟩⟩
 let enc:Fin es.length->List Value:=fun i=>(List.range 6).map (val i.1)
 let cf:Fin es.length->Fin es.length->Int:=fun i j=>iE (A7 es[i.1]) (A7 es[j.1])
 have henc:∀ i:Fin es.length,enc i=[.int .i64 (A7 es[i.1]).1,.int .i64 (A7 es[i.1]).2.1,.int .i64 (A7 es[i.1]).2.2,val i.1 3,val i.1 4,val i.1 5]:=by
  intro i;obtain⟨a0,a1,a2,_⟩:=hshape i.1 i.2;simp only[enc,show List.range 6=[0,1,2,3,4,5] from rfl,Qe1,Qc2,a0,a1,a2]
 have hlt:∀ i j:Fin es.length,ltOf cf i j=jG (A7 es[i.1]) (A7 es[j.1]):=fun i j=>rfl
 have hO:SWO (ltOf cf):=by
  constructor
  ·intro x;rw[hlt,Xn2,Ne,lG];omega
  ·intro x y z h1 h2;rw[hlt,lG]at*;omega
  ·intro x y z h1 h2;rw[hlt,Xn2,Ne,lG]at*;omega
 have hT:∀ x y,(ltOf cf) x y=false->(ltOf cf) y x=false->x=y:=by
  intro x y h1 h2;rw[hlt]at h1 h2;have h3:=jP h1 h2;have h4:(es.map A7)[x.1]?=(es.map A7)[y.1]?:=by simp[h3]
  have:=(List.getElem?_inj aC hnd).1 h4;exact Fin.ext this
 let d:Array (Fin es.length):=Array.finRange es.length
 have hds:d.size=es.length:=by simp[d]
 have hget:∀ i,i<es.length->(d[i]!).1=i:=by
  intro i hi;rw[getElem!_pos d i ae];simp[d]
 have ZW:∀ (dd:Array (Fin es.length)) (t:Nat),dd.size=es.length->t<es.length*6->(flatK enc 6 dd)[t]! = val (dd[t / 6]!).1 (t % 6):=by
  intro dd t h1 h2;rw[get_flatK enc 6 dd t (by rw[h1];exact h2)];have h3:t % 6<6:=Qu0 _ ae;simp only[enc];rw[getElem!_pos _ _ (by simpa using h3)];simp
 have hH:HoldsK enc 6 w b bo d:=by
  intro t ht;simp only[size_flatK,hds]at ht;have h6:t / 6<es.length:=ae;refine⟨?_,by simp[World.frozen?,hb]⟩;rw[ZW d t hds ht,hget _ h6];have hc6:=(hshape _ h6).2.2.2.2.2.2;have h3:t % 6<6:=Qu0 _ ae;have:=(hval (t / 6) h6 (t % 6) _ (Qa1 ae)).1;rw[show bo+t=bo+t / 6*6+t % 6 by omega];exact this
 have hcmp:CmpLays P gL #[] enc 6 cf b bo d.size w:=by
  intro m os dk _ x y;rw[henc x,henc y];obtain⟨_,_,_,o3,o4,o5,_⟩:=hshape x.1 x.2;obtain⟨_,_,_,p3,p4,p5,_⟩:=hshape y.1 y.2;exact Uc hm hB hF hσ _ _ _ _ _ _ _ _ ⟨o3,o4,o5,p3,p4,p5⟩ _
 have hcon:=AnyQ.slices_SortFunc_total L 6 aE zE enc (fun x=>by simp[enc]) (fun x v hv=>by
  rw[henc]at hv;obtain⟨_,_,_,o3,o4,o5,_⟩:=hshape x.1 x.2;simp only[Qg1,Xq0,or_false]at hv;rcases hv with rfl|rfl|rfl|rfl|rfl|rfl
  ·rfl
  ·rfl
  ·rfl
  ·revert o3;generalize val x.1 3=v;intro o3;cases v<;>first|rfl|(simp[sZ]at o3)
  ·revert o4;generalize val x.1 4=v;intro o3;cases v<;>first|rfl|(simp[sZ]at o3)
  ·revert o5;generalize val x.1 5=v;intro o3;cases v<;>first|rfl|(simp[sZ]at o3)) cf hO gL #[] b bo cap d w eg hcmp hH (Q50.1 hb).1 (by rw[hds];omega) hT
 rw[hρ,hds]at hcon;refine hcon.mono fun en w' ⟨he,m,os,hw⟩=>⟨he,?_⟩
 subst hw;generalize hdd:(d.toList.mergeSort fun x y => !(ltOf cf) y x)=l;have hperm:l.Perm d.toList:=by rw[<-hdd];exact Q02 _ _
 have hll:l.length=es.length:=by rw[hperm.length_eq];simpa using hds
 have hmap:es.mergeSort tJ=l.map fun i=>es[i.1]:=by
  have h1:=List.map_mergeSort (r:=fun x y => !(ltOf cf) y x) (f:=fun i:Fin es.length=>es[i.1]) (s:=tJ) (l:=d.toList) (fun a _ b _=>rfl);rw[hdd]at h1;rw[h1]
  congr 1
  apply List.ext_getElem
  ·simp[d]
  ·intro i h1 h2;simp[d]
 have hblt:b<w.heap.size:=(Q50.1 hb).1;have hhp:∀ x,x<w.heap.size->(sortWorldK enc 6 w b bo m l.toArray os).heap[x]?=(w.heap.modify b (onCells (putCells id bo (flatK enc 6 l.toArray))))[x]?:=by
  intro x hx;show((w.heap.modify b (onCells (putCells id bo (flatK enc 6 l.toArray))))++os)[x]?=_;rw[Xi0 (by simpa using hx)]
 have hbb:(sortWorldK enc 6 w b bo m l.toArray os).heap[b]?=some (.cells (putCells id bo (flatK enc 6 l.toArray) c) e (0,0)):=by
  rw[hhp b hblt,Q81,if_pos rfl,hb];rfl
 refine⟨?_,?_,rfl,rfl,rfl,?_,putCells id bo (flatK enc 6 l.toArray) c,hbb,by simp[putCells],?_⟩
 ·show _<=((w.heap.modify b _)++os).size;simp
 ·intro x hx hxb;rw[hhp x hx,Q81,if_neg (Ne.symm hxb)]
 ·show w.drawn<=w.drawn+m;omega
 ·have hmem:∀ e ∈ es.mergeSort tJ,e ∈ es:=fun e he=>(Q02 es tJ).mem_iff.1 he
  refine⟨hat.pos,by rw[List.length_mergeSort];exact hat.fit,fun e he=>hat.wide e (hmem e he),fun e he=>hat.one e (hmem e he),?_⟩;intro i ee hi j dd hj;rw[hmap,Qc1,Qg0]at hi;obtain⟨k,hk,rfl⟩:=hi;have hil:i<es.length:=by rw[<-hll];exact(aS hk)
  have hj6:j<6:=by have:=(aS hj);rw[(hshape k.1 k.2).2.2.2.2.2.2]at this;exact this
  obtain⟨g1,g2⟩:=hval k.1 k.2 j dd hj;refine⟨val k.1 j,?_,g2.mono (fun _ h=>h) (fun x hx => ?_)⟩
  ·have hfit:=hat.fit;have ht:i*6+j<es.length*6:=ae;have hcs:bo+(i*6+j)<c.size:=by rw[hsz];omega
   simp only[World.cell?,hbb];show(putCells id bo (flatK enc 6 l.toArray) c)[bo+i*6+j]?=_;rw[Qv0];simp only[putCells,Array.getElem?_mapIdx,Qh0 hcs,Q70];rw[if_pos ⟨ae,by simp[hll];omega⟩];simp only[id,show bo+(i*6+j)-bo=i*6+j by omega];rw[ZW l.toArray _ (by simpa using hll) ht];have h1:(i*6+j) / 6=i:=ae;have h2:(i*6+j) % 6=j:=ae;rw[h1,h2];have h3:l.toArray[i]! = k:=by
    rw[getElem!_pos l.toArray i (by simpa[hll] using hil)];have:=(Qm0.1 hk).2;simpa using this
   rw[h3]
  ·have hxb:x≠b:=fun h=>ZV (h ▸ hx)
   rw[hhp x (hI x hx),Q81,if_neg (Ne.symm hxb)]
end sort
section sort
variable {P:Program} {ρ:Shelf.Ren} {E:Env} {σ:Nat->Option FuncId} {gS gL:FuncId}
theorem Yl (hm:P.follows .mixedOrders=true)(hB:Bodies P E2 σ)(hF:mi P E2 σ)(hσ:σ 257=some gL)(L:SlLaysF0.n6 P ρ)(hρ:ρ.f 6=gS)(aE:∀ w,(isAgg (ρ.t 24)).run P w=.ok true w)(zE:∀ w,(Go.sizeOf (ρ.t 24)).run P w=.ok 6 w)
  (eg:∀ args w,(callFunc gL args).run P w=.ok (.enter gL args) w) (hf6:∀ f,σ 256=some f->f=gS) (args:List FV) (B:List ai) (r:FV × Option (List ai)) (h:A8 257 args B=some r):gZ P E σ 256 args B r:=by
 have hfn:∀ {I:Nat->Prop} {w:World} {y:Value} {β:Fi.Map} {n:Nat},aI σ β I w n (.d (.fn 257)) y->y=.func (.func gL) #[] #[]:=by
  intro I w y β n hy;cases hy with
  | d hy =>
   cases hy with
   | fn hs=>rw[hσ]at hs;cases hs;rfl
 have none:∀ (p:Option Addr) (cap:Nat) (w:World),Calls P gS #[.slice p 0 cap,.func (.func gL) #[] #[]] w fun e w'=>e=.returned (.tuple #[])/\w'=w:=by
  intro p cap w;have:=AnyF.slices_SortFunc_none L p cap (.func (.func gL) #[] #[]) w;rw[hρ]at this;exact this
 have hnil:∀ (I:Nat->Prop) (w:World),bB σ I w (.t []) (.tuple #[]):=fun I w=>.t rfl (fun i c x hc=>by simp at hc)
 unfold A8 at h;split at h
 ·rename_i i az n g;split at h
  ·rename_i hg;subst hg;split at h
   ·rename_i jf es Ml;split at h
    ·rename_i hh;obtain⟨rfl,rfl,hok⟩:=hh;cases h;intro f hf β I Wr w bn hS hA hG;obtain rfl:=hf6 f hf;obtain⟨x,y,rfl,hx,hy⟩:=IJ hA;have hy':=hfn hy;subst hy';obtain⟨b,bo,cap,o,hβ,hlc,Gq,rfl⟩:=xQ hx;simp only[Ref.abs]at hβ;obtain⟨hat,c,e,hb,hcs⟩:=hS.row i az 6 es b bo cap Ml hβ;have hwr:=hS.wr i (.row az 6 es) b bo cap Ml hβ;have hil:i<B.length:=(aS Ml)
     by_cases hne:es=[]
     ·subst hne;refine(none (some ⟨b,o,.none⟩) (cap-0) w).mono fun en w' ⟨he,hw⟩ => ?_
      subst hw;have hset:B.set i (.row az 6 (([]:List D).mergeSort tJ))=B:=by
       apply Xv2;intro j;rw[Xw0];split
       ·rename_i hij;subst hij;rw[Ml,List.mergeSort_nil]
       ·rfl
      refine⟨_,β,I,he,Ext.refl _ _ _ _,fun n' wd' => ?_,fun n'=>.d (hnil _ _)⟩;have:=aZ.Xu hS n' wd';rw[<-hset]at this;simpa using this
     ·have hpos:0<es.length:=Xf1.2 hne;have ho:o=bo:=by have:=Gq ae;omega
      subst ho;have hcap:cap-0=cap:=X11 _;rw[hcap];refine(Ud hm hB hF hσ L hρ aE zE eg hat hb hcs hok hne hwr.2 hS.kR).mono fun en w' ⟨he,h1,h2,h3,h4,h5,h6,c',h7,h8,h9⟩ => ?_
      obtain⟨k1,k2⟩:=hS.upd (mn:=E.mn) (Ym:=trivial) (w':=w') Ml (show(ai.row az 6 es).live β i=some (b,o,cap) from hβ) (.row az 6 (es.mergeSort tJ)) az b o cap h1 h2 (.inl rfl)
       (Ql1 (hS.blt _ _ _ _ _ hβ) h1) (fun z hz=>by rw[hβ]at hz;cases hz;rfl) h3 h4 h5 (fun _=>h6)
       (.inr (.inl ⟨6,es.mergeSort tJ,c',e,rfl,fun v z hz=>hS.lJ _ _ _ _ _ _ Ml hz,h7,by rw[h8,hcs],h9⟩))
      refine⟨_,_,I,he,k1,fun n' wd' => ?_,fun n'=>.d (hnil _ _)⟩;have hl:(B.set i (.row az 6 (es.mergeSort tJ))).length=B.length:=aC;rw[<-hl]at k2;exact aZ.Xu k2 n' wd'
    ·cases h
   ·cases h
  ·cases h
 ·rename_i g;split at h
  ·rename_i hg;subst hg;cases h;intro f hf β I w bn hS hA hG;obtain rfl:=hf6 f hf;obtain⟨x,y,rfl,hx,hy⟩:=IJ hA;have hy':=hfn hy;subst hy';rw[ni hx];refine(none .none 0 w).mono fun en w' ⟨he,hw⟩ => ?_
   subst hw;exact⟨_,_,I,he,rfl,hnil _ _,fun b h=>h,fun b h=>.inl h,hS.kR,Qd1 _,fun _ _=>rfl,rfl,rfl,rfl,fun _=>Qd1 _⟩
  ·cases h
 ·cases h
end sort
end
end Fi.S
noncomputable section
namespace Fi.S
open Go Fi Go.Proofs
set_option maxHeartbeats 8000000
set_option maxRecDepth 100000
noncomputable abbrev TP:Program:=Tryz.prog
def cL:Code->Code|.seq a _=>a|c=>c
def cR:Code->Code|.seq _ b=>b|c=>c
def cI:Code->Code|.block _ b=>b|.loop b=>b|c=>c
def uD:Code->Array Oper|.region _ o _=>o|_=>#[]
def op0 : Oper := { dst := none, op := .move (.tmp 0), type := 0, pos := "", after := #[], guard := none }
def opAt (c:Code)(i:Nat):Oper:=(uD c).getD i op0
noncomputable def lC:Code:=Tryz.f260.body.getD .skip
noncomputable def lC2:Code:=cR (cR lC)
noncomputable def VY:Code:=cL (cL lC2)
noncomputable def lLp:Code:=cI (cI (cR (cL lC2)))
noncomputable def K3:Code:=cL lLp
noncomputable def lB1:Code:=cI (cR (cR lLp))
noncomputable def uE:Code:=cL lB1
theorem Yn:Tryz.f260.body=some (.seq (cL lC) (.seq (cL (cR lC)) (.seq (.seq (.region 2 (uD VY) false) (.block 0 (.loop (.seq (.region 3 (uD K3) false) (.seq (.cond (.tmp 9) .skip (.exit 0)) (.block 1 (.seq (.region 4 (uD uE) false) (cR lB1)))))))) (cR lC2)))):=by kernel_rfl
theorem ab':(uD VY).toList=[opAt VY 0,opAt VY 1]:=by kernel_rfl
theorem ae_:(opAt VY 0).op=.move (.tmp 0)/\(opAt VY 0).dst=some 6/\(opAt VY 0).guard=none:=⟨by kernel_rfl,by kernel_rfl,by kernel_rfl⟩
theorem ae':(opAt VY 1).op=.range 221 (.tmp 6)/\(opAt VY 1).dst=some 7/\(opAt VY 1).guard=none:=⟨by kernel_rfl,by kernel_rfl,by kernel_rfl⟩
theorem aca:(uD K3).toList=[opAt K3 0,opAt K3 1]:=by kernel_rfl
theorem afa:(opAt K3 0).op=.next (.tmp 7) false/\(opAt K3 0).dst=some 8/\(opAt K3 0).guard=none:=⟨by kernel_rfl,by kernel_rfl,by kernel_rfl⟩
theorem afb:(opAt K3 1).op=.extract (.tmp 8) 0/\(opAt K3 1).dst=some 9/\(opAt K3 1).guard=none:=⟨by kernel_rfl,by kernel_rfl,by kernel_rfl⟩
theorem K4:(uD uE).toList=opAt uE 0::[opAt uE 1,opAt uE 2,opAt uE 3,opAt uE 4,opAt uE 5,opAt uE 6]:=by kernel_rfl
theorem afc:(opAt uE 0).op=.entry (.tmp 7)/\(opAt uE 0).dst=some 10/\(opAt uE 0).guard=none:=⟨by kernel_rfl,by kernel_rfl,by kernel_rfl⟩
theorem afd:TP.underlying 221=some (.map 113 46):=by kernel_rfl
noncomputable def Em:Cx:={gid:=gid,vars:=[0,2,3,4,5,7,9,15],kills:=fun _=>[],ntmps:=25,tL:=fun f=>Nat.beq f 308}
def acb:aF:=.region [⟨false,none,.zy (.c (.n 6))⟩] [(1,0)] []
def acd:aF:=.region [⟨false,none,.zy (.c (.n 6))⟩] [(2,0)] []
def ace:List iU:=[⟨false,none,.ext (.loc 0) 0⟩,⟨false,none,.ext (.loc 0) 1⟩,⟨false,none,.new [(vI 0),(vI 0),(vI 0)]⟩,⟨false,none,.new [(vB false),(.n 1),(.n 1)]⟩,⟨false,none,.store 3 (.loc 3) (.loc 1)⟩,⟨false,none,.store 3 (.loc 4) (.loc 2)⟩]
theorem ahk:comp TP Em (cL lC)=some acb:=by kernel_rfl
theorem ahl:comp TP Em (cL (cR lC))=some acd:=by kernel_rfl
theorem ahm:comp TP Em (cR lB1)=some R4:=by kernel_rfl
theorem c_E:comp TP Em (cR lC2)=some Mj:=by kernel_rfl
theorem ahn:lK TP Em [opAt uE 1,opAt uE 2,opAt uE 3,opAt uE 4,opAt uE 5,opAt uE 6] [some 10]=some ace:=by kernel_rfl
theorem afe:nu TP Em Tryz.f260.results.toList=some [.var 1]:=by kernel_rfl
theorem aho:[opAt uE 1,opAt uE 2,opAt uE 3,opAt uE 4,opAt uE 5,opAt uE 6].map (·.dst)=[some 11,some 12,some 4,some 5,none,none]:=by kernel_rfl
theorem ahp:Tryz.f260.ntmps=25:=by kernel_rfl
theorem acf (m out k1 k2 p b1 b2:FV)(L:List ai)(e:Int × Int × Int)(x:Rat)(rec:Nat->List FV->List ai->bF) :
  ∃ ev,dJ E3 rec ace (qF m .u out k1 k2 p b1 b2 L) [.d (.t [lD e,qD x])]=some (qF m .u out k1 k2 p b1 b2 (L++[.box [dI e.1,dI e.2.1,dI e.2.2],.box [dB (qs x),.d (LD (qn x)),.d (LD (qd x))]]),ev) /\
   ev=[.d (.t [lD e,qD x]),.d (lD e),.d (qD x),rL L.length,rL (L.length+1),.d (.t []),.d (.t [])]:=by
 obtain⟨a,b,c⟩:=e;simp only[lD,qD,raw,LD];refine⟨_,?_,rfl⟩;rw[<-zN];simp[ace,qF]
section walk
variable {I0:Nat->Prop} {w0:World}
structure Since (I0:Nat->Prop)(w0:World)(I:Nat->Prop)(w:World):Prop where
 im:∀ b,I0 b->I b
 gD:∀ b,I b->I0 b\/w0.heap.size<=b
 kR:∀ b,I b->b<w.heap.size
 size:w0.heap.size<=w.heap.size
 keep:∀ b,b<w0.heap.size->w.heap[b]?=w0.heap[b]?
 os:w.os=w0.os
 tape:w.tape=w0.tape
 output:w.output=w0.output
 drawn:w0.drawn<=w.drawn
theorem a_.reb {σ:Nat->Option FuncId}{β β':Fi.Map}{I:Nat->Prop}{w:World}{n n':Nat}{cx:Cx}{vars:List FV}{a:Act}(h:a_ σ β I w n cx vars [] [] a)(hv:∀ y ∈ vars,(∃ d,y=.d d)\/y=.u):a_ σ β' I w n' cx vars [] [] a :=
 ⟨h.size,fun j t y h1 h2 h3=>by
  have hr:=h.var j t y h1 h2 h3;rcases hv y (Qb2 h3) with ⟨d,rfl⟩|rfl
  ·cases hr with|d hr=>exact .d hr
  ·exact .u _,fun t j y h1=>by rw[eu]at h1;cases h1⟩
theorem a_.val {σ:Nat->Option FuncId}{β:Fi.Map}{I:Nat->Prop}{w:World}{n:Nat}{cx:Cx}{vars:List FV}{a:Act}(h:a_ σ β I w n cx vars [] [] a){j:Nat}{t:Tmp}{x:Value}(h1:cx.vars[j]?=some t)(h2:vars[j]?=some (.d (.v x))):a.eval (.tmp t)=x :=
 (h.var j t _ h1 (eu _) h2).val
theorem FP (hm:TP.follows .mixedOrders=true)(hB:Bodies TP E3 sig)(hF:mi TP E3 sig)(hP:iA TP E3 sig){c:Code}{F:aF}{N:Nat}{st st':St}{o:Out}(hc:comp TP Em c=some F)(hx:EX E3 N F st=some (o,st'))
  {Wr:Nat->Prop} {β:Fi.Map} {I:Nat->Prop} {w:World} {a:Act} {Q:Exit->Act->World->Prop} (hS:aZ sig st.base.length β I Wr (fun _=>True) (st.base++st.loc) w) (hG:dE E3 sig I w) (hT:a_ sig β I w st.base.length Em st.vars [] [] a)
  (hQ:∀ β' I' w' a',Ext E3.mn β β' I I' Wr w w'->aZ sig st.base.length β' I' Wr (fun _=>True) (st'.base++st'.loc) w'->a_ sig β' I' w' st.base.length Em st'.vars [] [] a'->a'.defers=a.defers->Q (BL o) a' w'):c.wp TP Q a w:=by
 rw[qp]at hx;exact uF hm hB N (fun M _=>pE hm hB hF hP M) N (Qd1 _) Em (fun f g h=>wy nodup wh h) c F hc st o st' hx Wr (fun _=>True) β I w a Q ⟨fun _ _=>trivial,fun _ _=>trivial⟩ hS hG hT hQ
structure At (ms:Array MapEntry)(clock bm r0:Nat)(l:List bS)(I0:Nat->Prop)(w0:World)(p:List Nat)(out:FV)(L:List ai)(β:Fi.Map)(I:Nat->Prop)(a:Act)(w:World):Prop where
 nd:p.Nodup
 lt:∀ i ∈ p,i<l.length
 it:∃ last,clock<=last/\w.heap[r0]?=some (.mapIter (some bm) clock (p.map fun i=>(ms[i]!).born).toArray last)
 map:w.heap[bm]?=some (.map ms clock)
 Dm:wz sig I w (l.map iM) ms clock
 pG:aZ sig 0 β I (fun b=>r0<b) (fun _=>True) L w
 nI:¬ I r0
 MR:dE E3 sig I w
 tmps:a_ sig β I w 0 Em [.d (.v (.map (some bm))),.u,out,.u,.u,.d (.v (.pointer (some ⟨r0,0,none⟩))),.u,.u] [] [] a
 MS:nU out L (p.flatMap fun i=>(l[i]?).elim [] d9)
 dfr:a.defers=[]
 since:Grow False I0 I w0 w
theorem Since.of {I I':Nat->Prop}{w w':World}{β β':Fi.Map}{r0:Nat}(h:Grow False I0 I w0 w)(hr:w0.heap.size<=r0)(hx:Ext E3.mn β β' I I' (fun b=>r0<b) w w')(hi:∀ b,I' b->b<w'.heap.size):Grow False I0 I' w0 w' :=
 ⟨fun b hb=>hx.im b (h.im b hb),fun b hb=>(hx.gD b hb).elim (h.gD b) (fun hb=>.inr ae),hi,Qe2 h.size hx.size,
 fun b hb=>(hx.keepW b (Ql1 hb h.size) ae).trans (h.keep b hb),hx.os.trans h.os,hx.tape.trans h.tape,hx.output.trans h.output,fun hf=>hf.elim⟩
theorem Yo (hm:TP.follows .mixedOrders=true)(hB:Bodies TP E3 sig)(hF:mi TP E3 sig)(hP:iA TP E3 sig){ms:Array MapEntry}{clock bm r0:Nat}{l:List bS}{p:List Nat}{out:FV}{L:List ai}{β:Fi.Map}{I:Nat->Prop}{a:Act}{w:World}
  (h:At ms clock bm r0 l I0 w0 p out L β I a w) (hr0:w0.heap.size<=r0) (JB:bm<w0.heap.size) (hl:∀ q ∈ l,qz q.2<=100000) (hlen:l.length<=100000) {K:Act->World->Prop} {Q:Exit->Act->World->Prop}
  (hdone:(∀ i,i<l.length->i ∈ p)->∀ a',At ms clock bm r0 l I0 w0 p out L β I a' w->Q (.exit 0) a' w)
  (hnext:∀ j out' L' β' I' a' w',j<l.length->j ∉ p->At ms clock bm r0 l I0 w0 (p++[j]) out' L' β' I' a' w'->K a' w') :
  (Code.seq (.region 3 (uD K3) false) (.seq (.cond (.tmp 9) .skip (.exit 0)) (.block 1 (.seq (.region 4 (uD uE) false) (cR lB1))))).wp TP (Exit.then K Q) a w:=by
 obtain⟨last,hlast,hit⟩:=h.it;have aff:a.eval (.tmp 7)=.pointer (some ⟨r0,0,none⟩):=a_.val h.tmps (j:=5) rfl rfl;have hsz:a.tmps.size=25:=h.tmps.size;have hdst:∀ (t:Nat),t<25->wB Em (some t)=true:=fun t ht=>decide_eq_true ht
 refine wp_seq (wp_region_list ?_);rw[aca];obtain⟨o1,o2,o3⟩:=afa;obtain⟨o4,o5,o6⟩:=afb;have hold:∀ x ∈ ms.toList,x.born<clock:=h.Dm.old
 -- what is left
 have hleft:∀ e ∈ (leftOf ms (p.map fun i=>(ms[i]!).born).toArray).toList,∃ j,j<l.length/\j ∉ p/\ms[j]?=some e:=by
  intro e he;simp only[leftOf,Array.toList_filter,Xs0]at he;obtain⟨he,hc⟩:=he;obtain⟨j,hj,rfl⟩:=Xj2 he;have hjm:j<ms.size:=by simpa using hj
  have hjl:j<l.length:=by rw[<-Qk0 (f:=iM),<-h.Dm.len];exact hjm
  refine⟨j,hjl,fun hp => ?_,by simp[hjm]⟩;simp only[Qo0,List.contains_toArray,List.contains_eq_mem,decide_eq_false_iff_not,Qj2,not_exists,not_and]at hc;exact hc j hp (by rw[getElem!_pos ms j hjm];simp)
 have Ue:∀ (a1:Act) (vs:Array Value) (t:Bool),a1.tmps.size=25->a1.eval (.tmp 8)=.tuple vs->vs[0]?=some (.bool t)->Yields TP (opAt K3 1) a1.eval w (fun y w''=>y=.bool t/\w''=w):=by
  intro a1 vs t _ h1 h2;refine iX ?_;simp[execOp,o4,h1,Instr.extract,h2]
 have hput:∀ (v:Value) (t:Bool),a_ sig β I w 0 Em [.d (.v (.map (some bm))),.u,out,.u,.u,.d (.v (.pointer (some ⟨r0,0,none⟩))),.u,.u] [] [] ((a.put (some 8) v).put (some 9) (.bool t)):=by
  intro v t;have h1:=((h.tmps.put rfl (hdst 8 ae) (.u v)).put rfl (hdst 9 ae) (v:=dB t) (x:=.bool t) (.d (.v _))).out rfl;exact h1.kill [6]
 have he8:∀ v,(a.put (some 8) v).eval (.tmp 8)=v:=fun v=>by
  rw[eval_put _ _ _ _ (fun u hu=>by cases hu;rw[hsz];exact(by decide:(8:Nat)<25)),if_pos rfl]
 have hs8:∀ v,(a.put (some 8) v).tmps.size=25:=fun v=>by rw[BM,hsz]
 have he9:∀ v t,((a.put (some 8) v).put (some 9) (.bool t)).eval (.tmp 9)=.bool t:=fun v t=>by
  rw[eval_put _ _ _ _ (fun u hu=>by cases hu;rw[hs8];exact(by decide:(9:Nat)<25)),if_pos rfl]
 have hd9:∀ v t,((a.put (some 8) v).put (some 9) (.bool t)).defers=[]:=fun v t=>by rw[put_defers,put_defers];exact h.dfr
 rcases Yp w (opAt K3 0).type r0 bm clock last _ ms clock hit h.map hold hlast with ⟨h0,hrun⟩|⟨e,he,w1,hw1,hrun⟩
 ·-- none is left
  refine eG o3 (iX (x:=.tuple #[.bool false]) (w':=w) (by simp only[execOp,o1,aff,Sem.run_bind];rw[hrun];rfl)) ?_;rintro x w' ⟨rfl,rfl⟩;rw[o2];refine eG o6 (Ue _ #[.bool false] false (hs8 _) (he8 _) rfl) ?_;rintro x w' ⟨rfl,rfl⟩;rw[o5];show(Code.seq (.cond (.tmp 9) .skip (.exit 0)) (.block 1 (.seq (.region 4 (uD uE) false) (cR lB1)))).wp TP (Exit.then K Q) _ _;refine wp_seq (wp_cond (t:=false) (he9 _ _) (wp_exit ?_));refine hdone (fun i hi => ?_) _ ⟨h.nd,h.lt,h.it,h.map,h.Dm,h.pG,h.nI,h.MR,hput _ _,h.MS,hd9 _ _,h.since⟩;rcases Decidable.em (i ∈ p) with hp|hp
  ·exact hp
  ·exfalso;have him:i<ms.size:=by rw[h.Dm.len,Qk0];exact hi
   have hmem:ms[i] ∈ leftOf ms (p.map fun i=>(ms[i]!).born).toArray:=by
    simp only[leftOf,Array.mem_filter,Array.getElem_mem,true_and,Qo0,List.contains_toArray,List.contains_eq_mem,decide_eq_false_iff_not,Qj2,not_exists,not_and];intro k hk hb;have hkm:k<ms.size:=by rw[h.Dm.len,Qk0];exact h.lt k hk
    rw[getElem!_pos ms k hkm]at hb;have hki:k=i:=by
     have h1:(ms.toList.map (·.born))[k]?=(ms.toList.map (·.born))[i]?:=by simp[hkm,him,hb]
     exact(List.getElem?_inj (by simpa using hkm) h.Dm.once).1 h1
    exact hp (hki ▸ hk)
   have:=Array.size_pos_of_mem hmem;omega
 ·obtain⟨j,hj,hjp,dw⟩:=hleft e he;have hjm:j<ms.size:=by rw[h.Dm.len,Qk0];exact hj
  have hjv:ms[j]! = e:=by
   rw[getElem!_pos ms j hjm];rw[Qh0 hjm]at dw;exact Qz2 dw
  have acg:w1.heap=w.heap:=by rcases hw1 with rfl|rfl<;>rfl
  have afh:r0<w.heap.size:=(Q50.1 hit).1;generalize hw2:({w1 with heap:=w1.heap.setIfInBounds r0 (.mapIter (some bm) clock ((p.map fun i=>(ms[i]!).born).toArray.push e.born) clock)}:World)=w2 at hrun;have hother:∀ b,b≠r0->w2.heap[b]?=w.heap[b]?:=fun b hb=>by
   rw[<-hw2];show(w1.heap.setIfInBounds r0 _)[b]?=_;rw[acg];simp[Ne.symm hb]
  have hsize:w2.heap.size=w.heap.size:=by rw[<-hw2];show(w1.heap.setIfInBounds r0 _).size=_;simp[acg]
  have hit2:w2.heap[r0]?=some (.mapIter (some bm) clock ((p.map fun i=>(ms[i]!).born).toArray.push e.born) clock):=by
   rw[<-hw2];show(w1.heap.setIfInBounds r0 _)[r0]?=_;rw[acg];simp[afh]
  have hos:w2.os=w.os/\w2.tape=w.tape/\w2.output=w.output:=by
   rw[<-hw2];rcases hw1 with rfl|rfl<;>exact⟨rfl,rfl,rfl⟩
  have hmap2:w2.heap[bm]?=some (.map ms clock):=by rw[hother bm ae];exact h.map
  have hI2:∀ b,I b->w2.heap[b]?=w.heap[b]?:=fun b hb=>hother b (fun e=>h.nI (e ▸ hb))
  have afi:=aZ.other (w':=w2) h.pG (r0:=r0) ae h.nI hsize hother;have BN:=h.MR.mono (w':=w2) (fun _ h=>h) hI2;have BO:=h.Dm.mono (w':=w2) (fun _ h=>h) hI2;have gK:Grow False I0 I w0 w2:=⟨h.since.im,h.since.gD,fun b hb=>hsize ▸ h.since.kR b hb,hsize ▸ h.since.size,fun b hb=>(hother b ae).trans (h.since.keep b hb),hos.1.trans h.since.os,hos.2.1.trans h.since.tape,hos.2.2.trans h.since.output,fun hf=>hf.elim⟩
  refine eG o3 (iX (x:=.tuple #[.bool true,e.key,e.val]) (w':=w2) (by simp only[execOp,o1,aff,Sem.run_bind];rw[hrun];rfl)) ?_;rintro x w' ⟨rfl,hw'⟩;rw[hw'];clear hw' w';rw[o2];have afj:Yields TP (opAt K3 1) (a.put (some 8) (.tuple #[.bool true,e.key,e.val])).eval w2 (fun y w''=>y=.bool true/\w''=w2):=iX (by simp[execOp,o4,he8,Instr.extract]);refine eG o6 afj ?_;rintro x w' ⟨rfl,hw'⟩;rw[hw'];clear hw' w';rw[o5];show(Code.seq (.cond (.tmp 9) .skip (.exit 0)) (.block 1 (.seq (.region 4 (uD uE) false) (cR lB1)))).wp TP (Exit.then K Q) _ _;refine wp_seq (wp_cond (t:=true) (he9 _ _) (wp_skip ?_));show(Code.block 1 (.seq (.region 4 (uD uE) false) (cR lB1))).wp TP (Exit.then K Q) _ _;refine wp_block (wp_seq (wp_region_list ?_));have ach:=a_.other (w':=w2) (hput (.tuple #[.bool true,e.key,e.val]) true) h.nI hother;have afk:=hd9 (.tuple #[.bool true,e.key,e.val]) true;generalize hga:(a.put (some 8) (.tuple #[.bool true,e.key,e.val])).put (some 9) (.bool true)=a2 at ach afk ⊢;have afl:a2.eval (.tmp 7)=.pointer (some ⟨r0,0,none⟩):=a_.val ach (j:=5) rfl rfl;rw[K4];obtain⟨u1,u2,u3⟩:=afc;have aci:=Uf (P:=TP) w2 r0 bm clock _ ms clock e hit2 hmap2 (Qb2 (by simpa using dw)) h.Dm.once;refine eG u3 (iX (x:=.tuple #[e.key,e.val]) (w':=w2) (by simp only[execOp,u1,afl,Sem.run_bind];rw[aci];rfl)) ?_;rintro x w' ⟨rfl,hw'⟩;rw[hw'];clear hw' w';rw[u2];obtain⟨q,hq⟩:∃ q,l[j]?=some q:=⟨l[j],Qa1 hj⟩
  have hqd:(l.map iM)[j]?=some (iM q):=by simp[hq]
  have hk:=BO.key j _ e hqd dw;have hv:=BO.val j _ e hqd dw;obtain⟨qe,qx⟩:=q;have hqz:qz qx<=1000000:=Qe2 (hl _ (Qb2 hq)) ae;simp only[iM]at hk hv;have hrt:aI sig β I w2 0 (.d (.t [lD qe,qD qx])) (.tuple #[e.key,e.val]):=.d (.t rfl (fun i c x hc hx=>by
   match i with
   | 0=>simp at hc hx;subst hc;subst hx;exact hk
   | 1=>simp at hc hx;subst hc;subst hx;exact hv
   | i+2=>simp at hc))
  obtain⟨ev,afm,hev⟩:=acf (.d (.v (.map (some bm)))) out .u .u (.d (.v (.pointer (some ⟨r0,0,none⟩)))) .u .u L qe qx (fun _ _ _=>none);have ht3:=ach.put rfl (hdst 10 ae) hrt;refine sO (E:=E3) (σ:=sig) (Wr:=fun b=>r0<b) (wd:=fun _=>True) (cx:=Em) (rec:=fun _ _ _=>none) (fun f g h=>wy nodup wh h) hB (fun _ _ _ _ _ h=>by cases h) (fun _ _ _ _ h=>by cases h) _ ahn afm rfl ?_ ?_ ⟨fun _ _=>trivial,fun _ _=>trivial⟩ afi BN ht3 ?_
  ·intro k d hd
   match k with
   | 0 =>
    simp at hd;subst hd;have:(uD uE)[0]?=some (opAt uE 0):=by rw[<-Qt2,K4];rfl
    rw[this];exact u2
   | k+1=>simp at hd
  ·intro k;rw[<-Qt2,K4];simp[Xo1 1 k]
  ·intro β3 I3 w3 a3 hx3 hs3 ht3 hl3 hd3;show(cR lB1).wp TP (Exit.inBlock 1 (Exit.then K Q)) a3 w3;rw[aho]at ht3 hl3;have ht4:=ht3.out (by rw[hev];rfl);rw[hev]at ht4;have hvars:iP [.d (.v (.map (some bm))),.u,out,.u,.u,.d (.v (.pointer (some ⟨r0,0,none⟩))),.u,.u] [.d (.t [lD qe,qD qx]),.d (lD qe),.d (qD qx),rL L.length,rL (L.length+1),.d (.t []),.d (.t [])] (mo ([some 10]++[some 11,some 12,some 4,some 5,none,none]) Em.vars 0) =
     [.d (.v (.map (some bm))),.u,out,rL L.length,rL (L.length+1),.d (.v (.pointer (some ⟨r0,0,none⟩))),.u,.u]:=by rfl
   have ht5:a_ sig β3 I3 w3 0 Em [.d (.v (.map (some bm))),.u,out,rL L.length,rL (L.length+1),.d (.v (.pointer (some ⟨r0,0,none⟩))),.u,.u] [] [] a3:=by
    rw[<-hvars];exact ht4
   have hout:nU out (L++[.box [dI qe.1,dI qe.2.1,dI qe.2.2],.box [dB (qs qx),.d (LD (qn qx)),.d (LD (qd qx))]]) (p.flatMap fun i=>(l[i]?).elim [] d9):=by
    rcases h.MS with h1|⟨i,az,h1,h2⟩
    ·exact .inl h1
    ·exact .inr ⟨i,az,h1,by rw[Qa0 (aS h2)];exact h2⟩
   have hcount:(p.flatMap fun i=>(l[i]?).elim [] d9).length<=1000000:=by
    have h1:∀ (p:List Nat),(p.flatMap fun i=>(l[i]?).elim [] d9).length<=p.length:=by
     intro p
     induction p with
     | nil=>simp
     | cons i p ih =>
      simp only[Xa1,Qb0,Qf2];have:((l[i]?).elim [] d9).length<=1:=by
       cases l[i]? with
       | none=>simp
       | some q=>simp only[Option.elim,d9];split<;>simp
      omega
    have h2:p.length<=l.length:=by
     have:=h.nd.length_le_of_subset (l₂:=List.range l.length) (fun i hi=>X40.2 (h.lt i hi));simpa using this
    have:=h1 p;omega
   obtain⟨N,out',L',b2',hxb,Gm⟩:=Xv qe qx hqz (.d (.v (.map (some bm)))) (.d (.v (.pointer (some ⟨r0,0,none⟩)))) .u .u out L.length (L.length+1) _ _ hout hcount aC aC;refine FP hm hB hF hP ahm hxb (Wr:=fun b=>r0<b) hs3 (BN.mono hx3.im hx3.eB) ht5 (fun β4 I4 w4 a4 hx4 hs4 ht6 hd4 => ?_);show K a4 w4;have hx34:=hx3.trans hx4;have hkr:w4.heap[r0]?=w2.heap[r0]?:=hx34.keepW r0 (by rw[hsize];exact afh) ae;have hkm:w4.heap[bm]?=w2.heap[bm]?:=hx34.keepW bm (by rw[hsize];omega) ae;refine hnext j out' L' β4 I4 a4 w4 hj hjp ⟨?_,?_,⟨clock,Qd1 _,?_⟩,by rw[hkm];exact hmap2,BO.mono hx34.im hx34.eB,hs4,?_,BN.mono hx34.im hx34.eB,?_,?_,by rw[hd4,hd3];exact(put_defers _ _ _).trans afk,Since.of gK hr0 hx34 hs4.kR⟩
   ·rw[List.nodup_append];exact⟨h.nd,aC,fun x hx y hy=>by simp at hy;subst hy;exact fun e=>hjp (e ▸ hx)⟩
   ·intro i hi;rcases Qw2.1 hi with hi|hi
    ·exact h.lt i hi
    ·simp at hi;subst hi;exact hj
   ·rw[hkr,hit2]
    congr 2
    apply Q01;simp[hjv]
   ·intro hb;rcases hx34.gD r0 hb with hb|hb
    ·exact h.nI hb
    ·omega
   ·exact ht6.kill [3,4,6,7]
   ·rw[List.flatMap_append];simpa[hq,d9] using Gm
end walk
theorem O5 {P:Program}{f:FuncId}{fn:Func}{c:Code}{v:Value}{n:Nat}{w:World}{R:Ending->World->Prop}(hf:P.funcs[f]?=some fn)(hb:fn.body=some c)(hn:fn.ntmps=n+1)
  (h:∀ a:Act,a.tmps.size=n+1->a.eval (.tmp 0)=v->a.defers=[]->c.wp P (bodyPost P fn R) a w):Calls P f #[v] w R:=by
 refine calls_of_wp hf hb (h _ ?_ ?_ rfl)
 ·rw[hn];simp;omega
 ·simp only[Act.eval,Qr2];rw[Xi0 aC];rfl
section walk
variable {I0:Nat->Prop} {w0:World}
theorem IK (hm:TP.follows .mixedOrders=true)(hB:Bodies TP E3 sig)(hF:mi TP E3 sig)(hP:iA TP E3 sig){ms:Array MapEntry}{clock bm r0:Nat}{l:List bS}(hr0:w0.heap.size<=r0)(JB:bm<w0.heap.size)(hl:∀ q ∈ l,qz q.2<=100000)(hlen:l.length<=100000)
  {Q:Exit->Act->World->Prop} (hdone:∀ p out L β I a w,At ms clock bm r0 l I0 w0 p out L β I a w->(∀ i,i<l.length->i ∈ p)->Q (.exit 0) a w):∀ (k:Nat) (p:List Nat) (out:FV) (L:List ai) (β:Fi.Map) (I:Nat->Prop) (a:Act) (w:World),
   l.length<=p.length+k->At ms clock bm r0 l I0 w0 p out L β I a w->Code.rounds TP (.seq (.region 3 (uD K3) false) (.seq (.cond (.tmp 9) .skip (.exit 0)) (.block 1 (.seq (.region 4 (uD uE) false) (cR lB1))))) Q (k+1) a w
 | k,p,out,L,β,I,a,w,hk,h=>by
  rw[rounds_succ];refine Yo hm hB hF hP h hr0 JB hl hlen (fun hall a' h'=>hdone p out L β I a' w h' hall) (fun j out' L' β' I' a' w' hj hjp h' => ?_);have hle:p.length+1<=l.length:=by
   have:=h'.nd.length_le_of_subset (l₂:=List.range l.length) (fun i hi=>X40.2 (h'.lt i hi));simpa using this
  match k with
  | 0=>omega
  | k+1=>exact IK hm hB hF hP hr0 JB hl hlen hdone k (p++[j]) out' L' β' I' a' w' (by simp;omega) h'
theorem O6 (hm:TP.follows .mixedOrders=true)(hB:Bodies TP E3 sig)(hF:mi TP E3 sig)(hP:iA TP E3 sig){bm clock:Nat}{ms:Array MapEntry}{l:List bS}(hI:∀ b,I0 b->b<w0.heap.size)(hG:dE E3 sig I0 w0)
  (hb:w0.heap[bm]?=some (.map ms clock)) (hM:wz sig I0 w0 (l.map iM) ms clock) (hl:∀ q ∈ l,qz q.2<=100000) (hlen:l.length<=100000) (hnd:(l.map (·.1)).Nodup) :
  Calls TP 260 #[.map (some bm)] w0 fun e w'=>∃ x I',e=.returned x/\bB sig I' w' (vJ l) x/\Grow False I0 I' w0 w':=by
 have JB:bm<w0.heap.size:=(Q50.1 hb).1;refine O5 Tryz.func260 Yn ahp (fun a0 hs0 he0 hd0 => ?_);have hT0:a_ sig (fun _ _=>none) I0 w0 0 Em (.d (.v (.map (some bm)))::nO) [] [] a0:=by
  refine⟨hs0,fun j t y h1 _ h3 => ?_,fun t j y h1=>by rw[eu]at h1;cases h1⟩
  match j with
  | 0 =>
   simp only[Qv1,Qd2]at h3;subst h3;have ht:t=0:=by
    have:Em.vars[0]?=some 0:=rfl;rw[this]at h1;exact(Qz2 h1).symm
   rw[ht,he0];exact .d (.v _)
  | 1 | 2 | 3 | 4 | 5 | 6 | 7=>simp at h3;subst h3;exact .u _
  | j+8=>simp at h3
 have hS0:aZ sig 0 (fun _ _=>none) I0 (fun b=>w0.heap.size<=b) (fun _=>True) [] w0:=.empty 0 hI (fun _ h=>h);have x0:EX E3 10 acb (qF (.d (.v (.map (some bm)))) .u .u .u .u .u .u .u [])=some (.norm,qF (.d (.v (.map (some bm)))) (.d (.n 6)) .u .u .u .u .u .u []):=by
  simp[acb,qF]
 have x1:EX E3 10 acd (qF (.d (.v (.map (some bm)))) (.d (.n 6)) .u .u .u .u .u .u [])=some (.norm,qF (.d (.v (.map (some bm)))) (.d (.n 6)) (.d (.n 6)) .u .u .u .u .u []):=by
  simp[acd,qF]
 refine wp_seq (FP hm hB hF hP ahk x0 hS0 hG hT0 (fun β1 I1 w1 a1 hx1 hs1 ht1 hd1 => ?_));show(Code.seq (cL (cR lC)) _).wp TP _ a1 w1;refine wp_seq (FP hm hB hF hP ahl x1 hs1 (hG.mono hx1.im hx1.eB) ht1 (fun β2 I2 w2 a2 hx2 hs2 ht2 hd2 => ?_));show(Code.seq _ (cR lC2)).wp TP _ a2 w2;have xR:=hx1.trans hx2;have BN:=hG.mono xR.im xR.eB;have ahr:a2.defers=[]:=by rw[hd2,hd1,hd0]
 have gK:Grow False I0 I2 w0 w2:=⟨xR.im,xR.gD,hs2.kR,xR.size,fun b hb=>xR.keepW b hb ae,xR.os,xR.tape,xR.output,fun hf=>hf.elim⟩
 have BO:=hM.mono xR.im xR.eB;have hmap2:w2.heap[bm]?=some (.map ms clock):=by rw[xR.keepW bm JB ae];exact hb
 have hi2:=hs2.kR;clear hx1 hx2 xR hs1 hs2 ht1 hd1 hd2;have acj:a_ sig (fun _ _=>none) I2 w2 0 Em (.d (.v (.map (some bm)))::.u::.d (.n 6)::iO) [] [] a2:=by
  refine a_.kill (vars:=(.d (.v (.map (some bm)))::.d (.n 6)::.d (.n 6)::iO)) ?_ [1];refine a_.reb ht2 (fun y hy => ?_);simp only[qF,Qg1,Xq0,or_false]at hy;rcases hy with rfl|rfl|rfl|rfl|rfl|rfl|rfl|rfl<;>first|exact .inl ⟨_,rfl⟩|exact .inr rfl
 have hm0:a2.eval (.tmp 0)=.map (some bm):=a_.val acj (j:=0) rfl rfl;have hsz2:a2.tmps.size=25:=acj.size
 -- the iterator
 refine wp_seq (wp_seq (wp_region_list ?_));rw[ab'];obtain⟨o1,o2,o3⟩:=ae_;obtain⟨o4,o5,o6⟩:=ae';refine eG o3 (iX (x:=.map (some bm)) (w':=w2) (by simp only[execOp,o1,hm0,Sem.run_bind,Sem.run_pure])) ?_;rintro x w' ⟨rfl,hw'⟩;rw[hw'];clear hw' w';rw[o2];have he6:(a2.put (some 6) (.map (some bm))).eval (.tmp 6)=.map (some bm):=by
  rw[eval_put _ _ _ _ (fun u hu=>by cases hu;rw[hsz2];exact(by decide:(6:Nat)<25)),if_pos rfl]
 refine eG o6 (iX (x:=.pointer (some ⟨w2.heap.size,0,none⟩)) (w':=w2.alloc (.mapIter (some bm) clock #[] clock)) (by
  simp only[execOp,o4,he6,Sem.run_bind];rw[run_range_map w2 221 113 46 bm ms clock afd hmap2];rfl)) ?_
 rintro x w' ⟨rfl,hw'⟩;rw[hw'];clear hw' w';rw[o5];generalize hw3:w2.alloc (.mapIter (some bm) clock #[] clock)=w3;have Ug:∀ b,b<w2.heap.size->w3.heap[b]?=w2.heap[b]?:=fun b hb=>by rw[<-hw3];exact alloc_old _ _ hb
 have afn:w3.heap[w2.heap.size]?=some (.mapIter (some bm) clock #[] clock):=by rw[<-hw3];exact nW _ _
 have akl:w3.heap.size=w2.heap.size+1:=by rw[<-hw3];simp
 have hI3:∀ b,I2 b->w3.heap[b]?=w2.heap[b]?:=fun b hb=>Ug b (hi2 b hb)
 have ht3:a_ sig (fun _ _=>none) I2 w3 0 Em [.d (.v (.map (some bm))),.u,.d (.n 6),.u,.u,.d (.v (.pointer (some ⟨w2.heap.size,0,none⟩))),.u,.u] [] [] ((a2.put (some 6) (.map (some bm))).put (some 7) (.pointer (some ⟨w2.heap.size,0,none⟩))):=by
  have h1:=((acj.put rfl (d:=some 6) (by exact decide_eq_true (by decide:(6:Nat)<25)) (v:=.d (.v (.map (some bm)))) (x:=.map (some bm)) (.d (.v _))).put rfl (d:=some 7) (by exact decide_eq_true (by decide:(7:Nat)<25)) (v:=.d (.v (.pointer (some ⟨w2.heap.size,0,none⟩)))) (x:=.pointer (some ⟨w2.heap.size,0,none⟩)) (.d (.v _))).out rfl;exact h1.mono (fun _ _ _ h=>h) (fun _ h=>h) hI3
 have hd3:((a2.put (some 6) (.map (some bm))).put (some 7) (.pointer (some ⟨w2.heap.size,0,none⟩))).defers=[]:=by rw[put_defers,put_defers];exact ahr
 generalize (a2.put (some 6) (.map (some bm))).put (some 7) (.pointer (some ⟨w2.heap.size,0,none⟩))=a3 at ht3 hd3;have hat:At ms clock bm w2.heap.size l I0 w0 [] (.d (.n 6)) [] (fun _ _=>none) I2 a3 w3 :=
  {nd:=List.nodup_nil,lt:=fun i hi=>by simp at hi,it:=⟨clock,Qd1 _,afn⟩,map:=by rw[Ug bm (Ql1 JB gK.size)];exact hmap2,Dm:=BO.mono (fun _ h=>h) hI3,
   pG:=.empty 0 (fun b hb=>by have:=hi2 b hb;omega) (fun b hb=>by show _<_;omega),nI:=fun hb=>by have:=hi2 _ hb;omega,MR:=BN.mono (fun _ h=>h) hI3,tmps:=ht3,MS:=.inl ⟨rfl,rfl⟩,dfr:=hd3,
   since:=⟨gK.im,gK.gD,fun b hb=>by have:=hi2 b hb;omega,by have:=gK.size;omega,fun b hb=>(Ug b (Ql1 hb gK.size)).trans (gK.keep b hb),by rw[<-hw3];exact gK.os,by rw[<-hw3];exact gK.tape,by rw[<-hw3];exact gK.output,fun hf=>hf.elim⟩}
 show(Code.block 0 _).wp TP _ a3 w3;refine wp_block (wp_loop_rounds (l.length+1) (IK hm hB hF hP gK.size JB hl hlen (fun p out L β I a w h hall => ?_) l.length [] _ _ _ _ _ _ aC hat));show(cR lC2).wp TP _ a w;have hperm:=Ol h.nd h.lt hall d9;have hnd':((p.flatMap fun i=>(l[i]?).elim [] d9).map A7).Nodup:=(hperm.map A7).nodup_iff.2 (X51 (yC l) hnd);have hok:xD (p.flatMap fun i=>(l[i]?).elim [] d9)=true:=by
  simp only[xD,Qa2,decide_eq_true_eq];refine⟨⟨Qf0.2 (fun d hd=>Oj l d (hperm.mem_iff.1 hd)),hnd'⟩,?_⟩;have h1:=(yC l).length_le;rw[Qk0,Qk0]at h1;rw[hperm.length_eq];omega
 obtain⟨N,out',L',aQ,hxe,hoe⟩:=aa' (.d (.v (.map (some bm)))) .u .u (.d (.v (.pointer (some ⟨w2.heap.size,0,none⟩)))) .u .u out L _ h.MS hok;refine FP hm hB hF hP c_E hxe (Wr:=fun b=>w2.heap.size<b) h.pG h.MR h.tmps (fun β5 I5 w5 a5 hx5 hs5 ht5 hd5 => ?_);have Yq:(p.flatMap fun i=>(l[i]?).elim [] d9).mergeSort tJ=(l.flatMap d9).mergeSort tJ:=Oi hperm hnd';rw[Yq]at hoe;have lL:=Since.of h.since gK.size hx5 hs5.kR;have hres:jF ({vars:=[.d (.v (.map (some bm))),out',out',.u,.u,.d (.v (.pointer (some ⟨w2.heap.size,0,none⟩))),.u,.u],base:=[],loc:=L',aQ:=aQ}:St) [.var 1]=some [out']:=rfl;obtain⟨vs,g1,g2,g3⟩:=wC (P:=TP) hs5 ht5 afe hres;have hend:a5.defers=[]/\∃ v,(results Tryz.f260 a5.tmps).run TP w5=.ok v w5/\(∃ x I',Ending.returned v=.returned x/\bB sig I' w5 (vJ l) x/\Grow False I0 I' w0 w5):=by
  refine⟨by rw[hd5];exact h.dfr,mq vs,yP g1 g2,mq vs,?_⟩;obtain⟨v,rfl⟩:∃ v,vs=[v]:=by
   have:=g3.1
   match vs,this with
   | [v],_=>exact⟨v,rfl⟩
  have hv:=g3.2 0 out' v rfl rfl;show ∃ I',Ending.returned v=.returned v/\bB sig I' w5 (vJ l) v/\Grow False I0 I' w0 w5;unfold vJ;generalize (l.flatMap d9).mergeSort tJ=es at hoe ⊢;rcases hoe with ⟨rfl,rfl⟩|⟨i,az,rfl,hrow⟩
  ·rw[ni hv];exact⟨I5,rfl,.s0 6,lL⟩
  ·refine⟨fun b=>I5 b\/∃ bo cap,β5 i az=some (b,bo,cap),rfl,?_,?_⟩
   ·have:=FQ (st:=({vars:=[],base:=[],loc:=L',aQ:=aQ}:St)) (I':=fun b=>I5 b\/∃ bo cap,β5 i az=some (b,bo,cap)) hs5 (p:=.loc i) (az:=az) (sz:=6) (off:=0) (len:=es.length) (es:=es) (.inl (show(({vars:=[],base:=[],loc:=L',aQ:=aQ}:St).heap (.loc i))=_ from hrow)) ae hv (fun b hb=>.inl hb) (fun b bo cap hβ=>.inr ⟨bo,cap,by simpa[Ref.abs] using hβ⟩);simpa using this
   ·refine⟨fun b hb=>.inl (lL.im b hb),fun b hb => ?_,fun b hb => ?_,lL.size,lL.keep,lL.os,lL.tape,lL.output,fun hf=>hf.elim⟩
    ·rcases hb with hb|⟨bo,cap,hb⟩
     ·exact lL.gD b hb
     ·have:=(hs5.wr i (.row az 6 es) b bo cap hrow hb).1 trivial;have h1:=gK.size;exact .inr ae
    ·rcases hb with hb|⟨bo,cap,hb⟩
     ·exact lL.kR b hb
     ·exact hs5.blt _ _ _ _ _ hb
 exact hend
end walk
theorem Yr {σ:Nat->Option FuncId}{β:Fi.Map}{I:Nat->Prop}{w:World}{n:Nat}{a:FV}{bn:Array Value}(hA:fO σ β I w n [a] bn.toList):∃ x,bn=#[x]/\aI σ β I w n a x:=by
 have hl:bn.toList.length=1:=hA.1
 match hvl:bn.toList,hl with
 | [x],_=>exact⟨x,by apply Q01;rw[hvl],hA.2 0 _ x rfl (by rw[hvl];rfl)⟩
theorem Yt (hm:TP.follows .mixedOrders=true)(hB:Bodies TP E3 sig)(hF:mi TP E3 sig)(hP:iA TP E3 sig){E:Env}(Ub:¬ E.mn)(hg:E.dU=E3.dU)(args:List FV)(B:List ai)(r:FV × Option (List ai))(h:Bb args B=some r):gZ TP E sig 206 args B r:=by
 unfold Bb at h;split at h
 ·rename_i i;split at h
  ·rename_i es Ml;split at h
   ·rename_i l hl;split at h
    ·rename_i hok;cases h;intro f hf β I w bn hS hA hG;have hf':sig 206=some 260:=by kernel_rfl
     obtain rfl:=Qz2 (hf'.symm.trans hf);obtain⟨x,rfl,hx⟩:=Yr hA;have hes:=yD hl;subst hes;cases hx with
     | @m _ b bo cap hβ =>
      simp only[Ref.abs]at hβ;obtain⟨ms,clock,h1,h2⟩:=hS.map i _ b bo cap Ml hβ;simp only[xE,Qa2,decide_eq_true_eq,Qf0]at hok;refine(O6 hm hB hF hP hS.kR (fun k y hk=>hG k y (by rw[hg];exact hk)) h1 h2 hok.1.2 hok.2 hok.1.1).mono fun e w' ⟨x,I',he,hr,hgr⟩ => ?_
      exact⟨x,_,I',he,rfl,hr,hgr.im,hgr.gD,hgr.kR,hgr.size,hgr.keep,hgr.os,hgr.tape,hgr.output,fun hf=>absurd hf Ub⟩
    ·cases h
   ·cases h
  ·cases h
 ·cases h
end Fi.S
