import Derived.Test.YtgngjdakilfmoaaGreatDoorCD
import Derived.Test.YtgngjdakilfmoaaGreatDoorFiH
set_option linter.unusedVariables false
set_option linter.unusedSimpArgs false
noncomputable section
namespace Fi.S
open Go Fi
set_option maxHeartbeats 8000000
def E2:Env:={fn:=fn,eG:=fun _=>none,jq:=fun _=>none,iO:=fun _=>none,mn:=True}
theorem yY (n:Nat)(x y:Int):CL E2 (n+60) 255 [dI x,dI y] []=some (dI (f_ x y),none):=by
 have ML:∀ m z,CL E2 (m+20) 282 [dI z] []=some (dB false,none):=by
  intro m z;rw[aA rfl (k282:E2.fn _=_) rfl];simp[f282]
 rw[aA rfl (k255:E2.fn _=_) rfl];unfold f_
 by_cases h1:x<y
 ·simp[f255,ML,h1]
 ·by_cases h2:y<x
  ·simp[f255,ML,h1,h2]
  ·simp[f255,ML,h1,h2]
theorem JQ (n:Nat)(d e:Int × Int × Int):CL E2 (n+200) 204 [.d (kF d),.d (kF e)] []=some (dI (jr d e),none):=by
 obtain⟨a,b,c⟩:=d;obtain⟨a',b',c'⟩:=e;have c1:=fun m=>yY m a' a
 have c2:=fun m=>yY m b' b
 have c3:=fun m=>yY m c' c
 rw[aA rfl (k204:E2.fn _=_) rfl];simp only[kF,jr];have w1:ak .i64 1=1:=wrap_i64 ae;have w2:ak .i64 2=2:=wrap_i64 ae;have w3:ak .i64 3=3:=wrap_i64 ae;generalize f_ a' a=x,f_ b' b=y,f_ c' c=z at*
 by_cases h1:x=0
 ·subst h1
  by_cases h2:y=0
  ·subst h2
   by_cases h3:z=0
   ·subst h3;simp[f204,aD,w1,w2,w3,c1,c2,c3]
   ·have e3:(z != 0)=true:=by simpa using h3
    simp[f204,aD,w1,w2,w3,c1,c2,c3,e3]
  ·have e2:(y != 0)=true:=by simpa using h2
   simp[f204,aD,w1,w2,w3,c1,c2,c3,e2,h2]
 ·have e1:(x != 0)=true:=by simpa using h1
  simp[f204,aD,w1,w2,w3,c1,c2,c3,e1,h1]
def yZ (e:Int × Int × Int)(x y z:D):D:=.a [vI e.1,vI e.2.1,vI e.2.2,x,y,z]
theorem QX (n:Nat)(d e:Int × Int × Int)(x y z x' y' z':D)(h:x.one=true/\y.one=true/\z.one=true/\x'.one=true/\y'.one=true/\z'.one=true) :
  CL E2 (n+300) 257 [.d (yZ d x y z),.d (yZ e x' y' z')] []=some (dI (jr d e),none):=by
 have t:=fun m=>JQ m d e
 rw[aA rfl (aO 257 f257:E2.fn _=_) rfl];obtain⟨h1,h2,h3,h4,h5,h6⟩:=h;obtain⟨a,b,c⟩:=d;obtain⟨a',b',c'⟩:=e;simp only[yZ,kF]at*;generalize jr (a,b,c) (a',b',c')=r at*;have hi:∀ k n,D.one (.v (.int k n))=true:=fun _ _=>rfl
 simp[f257,t,h1,h2,h3,h4,h5,h6,hi,-D.one]
section
theorem C8 (x y:Int):f_ x y<0↔x<y:=by
 unfold f_
 by_cases h1:x<y
 ·simp[h1]
 ·by_cases h2:y<x<;>simp[h1,h2]
theorem uD (x y:Int):f_ x y=0↔x=y:=by
 unfold f_
 by_cases h1:x<y
 ·simp[h1];omega
 ·by_cases h2:y<x
  ·simp[h1,h2];omega
  ·simp[h1,h2];omega
def lL (d e:Int × Int × Int):Bool:=decide (jr d e<0)
theorem mG (d e:Int × Int × Int):lL d e=true↔(e.1<d.1\/e.1=d.1/\(e.2.1<d.2.1\/e.2.1=d.2.1/\e.2.2<d.2.2)):=by
 unfold lL jr;rw[decide_eq_true_iff]
 by_cases h1:f_ e.1 d.1=0
 ·rw[if_neg (by simp[h1])];rw[uD]at h1
  by_cases h2:f_ e.2.1 d.2.1=0
  ·rw[if_neg (by simp[h2])];rw[uD]at h2;rw[C8];omega
  ·rw[if_pos (by simpa using h2),C8];rw[uD]at h2;omega
 ·rw[if_pos (by simpa using h1),C8];rw[uD]at h1;omega
theorem kN {d e:Int × Int × Int}(h1:lL d e=false)(h2:lL e d=false):d=e:=by
 have a:¬ lL d e=true:=by simp[h1]
 have b:¬ lL e d=true:=by simp[h2]
 rw[mG]at a b;obtain⟨x,y,z⟩:=d;obtain⟨x',y',z'⟩:=e;simp only at a b;simp only[Qm0];omega
def Vj:D->Bool
 | .a [.v (.int .i64 _),.v (.int .i64 _),.v (.int .i64 _),x,y,z]=>x.one&&y.one&&z.one
 | _=>false
def C9:D->Int × Int × Int
 | .a (.v (.int _ a)::.v (.int _ b)::.v (.int _ c)::_)=>(a,b,c)
 | _=>(0,0,0)
def vz (x y:D):Bool := !lL (C9 y) (C9 x)
theorem Vk {d:D}(h:Vj d=true):∃ x y z,d=yZ (C9 d) x y z/\x.one=true/\y.one=true/\z.one=true:=by
 unfold Vj at h;split at h
 ·simp only[Qd0]at h;exact⟨_,_,_,rfl,h.1.1,h.1.2,h.2⟩
 ·cases h
def y5 (es:List D):Bool:=es.all Vj&&decide (es.map C9).Nodup&&decide (es.length<=1000000)
def C_ (cmp:Nat)(args:List FV)(B:List ah):bJ :=
 match args with
 | [.ls (.old i) av 6 0 n,.d (.fn g)]=>if g=cmp then(match B[i]? with
  | some (.row jO 6 es)=>if av=jO/\n=es.length/\y5 es=true then some (.d (.t []),some (B.set i (.row av 6 (es.mergeSort vz)))) else none
  | _=>none) else none
 | [.d (.n 6),.d (.fn g)]=>if g=cmp then some (.d (.t []),none) else none
 | _=>none
section any
variable {σ:Nat->Option FuncId} {β:Fi.Map} {I Wr:Nat->Prop} {w:World} {n:Nat} {H:List ah}
theorem aI.aah {f:FV}{x:Value}(h:aI σ β I w n f x)(hd:∀ k v x,β k v=some x->k<n)(n':Nat):aI σ β I w n' f x:=by
 have abs:∀ (p:Ref) v x,β (p.abs n) v=some x->p.abs n=p.abs n':=by
  intro p v x hp;cases p with
  | loc i=>have:=hd _ _ _ hp;simp only[Ref.abs]at this;omega
  | old i=>rfl
 induction h with
 | u x=>exact .u x
 | d h=>exact .d h
 | r h=>exact .r (by rw[<-abs _ _ _ h];exact h)
 | e h=>exact .e (by rw[<-abs _ _ _ h];exact h)
 | rc hb ho h=>exact .rc hb ho h
 | ls h hl ho=>exact .ls (by rw[<-abs _ _ _ h];exact h) hl ho
 | m h=>exact .m (by rw[<-abs _ _ _ h];exact h)
 | z=>exact .z
 | f h h1 h2 _ _ ih1 ih2=>exact .f h h1 h2 ih1 ih2
 | a hl _ ih=>exact .a hl ih
 | t hl _ ih=>exact .t hl ih
theorem bf.aah (h:bf σ H.length β I Wr (fun _=>True) H w)(n':Nat)(wd':Nat->Prop):bf σ n' β I Wr wd' H w :=
 h.ag7 h.kG (fun k o b bo cap h1 h2 _=>(h.wr k o b bo cap h1 h2).1 trivial) (fun k cs b bo cap h1 h2 j f x h3 h4=>aI.aah h4 h.dom n')
end any
section sort
end sort
end
section sort
end sort
section sort
end sort
end Fi.S
noncomputable section
namespace Fi.S
open Go Fi
set_option maxHeartbeats 8000000
def E3:Env:={fn:=fn,eG:=eG,jq:=ve,iO:=fun g=>bif Nat.beq g 256 then some (C_ 257) else none}
theorem adY:E0.Le E3:=⟨rfl,rfl,rfl,fun g p hp=>by cases hp⟩
def qC (e:Int × Int × Int)(x:Rat):D:=yZ e (vB (qs x)) (LD (qn x)) (LD (qd x))
def pK (out:FV)(L:List ah)(es:List D):Prop:=(out=.d (.n 6)/\es=[])\/∃ i av,out=.ls (.loc i) av 6 0 es.length/\L[i]?=some (.row av 6 es)
def Vl:aF:=(.seq (.region [⟨false,none,.load true 3 (.var 4)⟩,⟨false,none,.call 134 [(.loc 0)]⟩,⟨false,none,.bin .neq (.loc 1) (.c (vI 0))⟩] [(7,2)] []) (.cond (.var 7) (.region [⟨false,none,.Bh (.var 2)⟩,⟨false,none,.load true 3 (.var 3)⟩,⟨false,none,.load true 3 (.var 4)⟩,⟨false,none,.build [(vI 0),(vI 0),(vI 0),(vB false),(.n 1),(.n 1)] [(0,3,(.loc 1)),(3,3,(.loc 2))]⟩,⟨false,none,.lit 6 true [(vI 0),(vI 0),(vI 0),(vB false),(.s 1 []),(.s 1 [])] 1 [(0,(.loc 3))]⟩,⟨false,none,.app 6 80 (.loc 0) (.loc 4)⟩,⟨false,none,.Bh (.loc 5)⟩] [(2,6)] []) .skip))
def Pb:aF:=(.seq (.region [⟨false,none,.Bh (.var 2)⟩,⟨false,none,.rJ 256 [(.loc 0),(.c (.fn 257))]⟩] [] []) (.seq (.region [⟨false,none,.Bh (.var 2)⟩,⟨false,none,.Bh (.loc 0)⟩] [(1,1)] []) .ret))
def rU (m res out k1 k2 p b1 b2:FV)(L:List ah):St:=(st0 [m,res,out,k1,k2,p,b1,b2] L)
theorem aai (e:Int × Int × Int)(x:Rat)(hx:qz x<=1000000)(m p b1 b2 out:FV)(k1 k2:Nat)(L:List ah)(es:List D)(ho:pK out L es)(hn:es.length<=1000000)
  (h1:L[k1]?=some (.box [dI e.1,dI e.2.1,dI e.2.2])) (h2:L[k2]?=some (.box [dB (qs x),.d (LD (qn x)),.d (LD (qd x))])) :
  ∃ N out' L' b2',EX E3 N Vl (rU m .u out (rL k1) (rL k2) p b1 b2 L)=some (.norm,rU m .u out' (rL k1) (rL k2) p b1 b2' L')/\pK out' L' (es++if x=0 then [] else [qC e x]):=by
 obtain⟨N,t⟩:=(Ca.up adY (w_ x hx)).get;have hs:x=0↔x.num.sign=0:=by rw[Q91,Rat.num_eq_zero]
 obtain⟨a,b,c⟩:=e;simp only[qC,yZ,qD,raw]at*;generalize qs x=s at*;simp only[LD]at*;generalize LL (qn x)=ns,LL (qd x)=ds at*;refine⟨N+60,?_⟩
 by_cases h0:x=0
 ·have hz:x.num.sign=0:=hs.1 h0;rw[hz]at t;refine⟨out,L,dB false,?_,by rw[if_pos h0,Q10];exact ho⟩;simp[rU,Vl,h1,h2,t]
 ·have hz:x.num.sign≠0:=fun h=>h0 (hs.2 h)
  have hz':(x.num.sign != 0)=true:=by simpa using hz
  generalize x.num.sign=sg at*;rw[if_neg h0];rcases ho with ⟨rfl,rfl⟩|⟨i,av,rfl,hrow⟩
  ·refine⟨.ls (.loc L.length) 0 6 0 1,L++[.row 0 6 [.a [vI a,vI b,vI c,vB s,.s 1 ns,.s 1 ds]]],dB true,?_,.inr ⟨L.length,0,rfl,aC⟩⟩;simp[rU,Vl,h1,h2,t,hz,hz',most]
  ·have hm1:(es.length+1)*80<=1099511627776:=ae;have hm2:es.length+1<=1099511627776:=ae;have hil:i<L.length:=(aT hrow)
   refine⟨.ls (.loc i) (av+1) 6 0 (es.length+1),L.set i (.row (av+1) 6 (es++[.a [vI a,vI b,vI c,vB s,.s 1 ns,.s 1 ds]])),dB true,?_,.inr ⟨i,av+1,aC,by simp[hil]⟩⟩;simp[rU,Vl,h1,h2,hrow,t,hz,hz',most,hm1,hm2]
theorem adZ (m k1 k2 p b1 b2 out:FV)(L:List ah)(es:List D)(ho:pK out L es)(hok:y5 es=true) :
  ∃ N out' L' aX,EX E3 N Pb (rU m .u out k1 k2 p b1 b2 L)=some (.ret,{vars:=[m,out',out',k1,k2,p,b1,b2],base:=[],loc:=L',aX:=aX})/\pK out' L' (es.mergeSort vz):=by
 rcases ho with ⟨rfl,rfl⟩|⟨i,av,rfl,hrow⟩
 ·have hs:∀ k,CL E3 k 256 [.d (.n 6),.d (.fn 257)] (List.map (ah.az 0) L)=some (.d (.t []),none):=fun k=>by
   rw[sQ (p:=C_ 257) rfl (ag8:E3.fn _=_) rfl];rfl
  refine⟨60,.d (.n 6),L,false,?_,.inl ⟨rfl,aC⟩⟩;simp[rU,Pb,hs,FV.az,FV.aP]
 ·have hs:∀ k,CL E3 k 256 [.ls (.old i) av 6 0 es.length,.d (.fn 257)] (List.map (ah.az 0) L)=some (.d (.t []),some ((List.map (ah.az 0) L).set i (.row av 6 (es.mergeSort vz)))):=fun k=>by
   have hB:(List.map (ah.az 0) L)[i]?=some (.row av 6 es):=by simp[hrow,ah.az]
   rw[sQ (p:=C_ 257) rfl (ag8:E3.fn _=_) rfl];simp[C_,hB,hok]
  have hil:i<L.length:=(aT hrow)
  refine⟨60,.ls (.loc i) av 6 0 es.length,(List.map (ah.az 0) L).set i (.row av 6 (es.mergeSort vz)),false,?_,.inr ⟨i,av,aC,by simp[hil]⟩⟩;simp[rU,Pb,hs,FV.az,FV.aP]
end Fi.S
