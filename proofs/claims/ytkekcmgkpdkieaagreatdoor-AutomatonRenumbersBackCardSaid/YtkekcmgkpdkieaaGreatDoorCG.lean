import Derived.Test.YtkekcmgkpdkieaaGreatDoorCD
import Derived.Test.YtkekcmgkpdkieaaGreatDoorFiH
set_option linter.unusedVariables false
set_option linter.unusedSimpArgs false
noncomputable section
namespace Fi.S
open Go Fi
set_option maxHeartbeats 8000000
def E2:Env:={fn:=fn,d9:=fun _=>none,ja:=fun _=>none,iF:=fun _=>none,mn:=True}
theorem yI (n:Nat)(x y:Int):CL E2 (n+60) 255 [.d (.v (.int .i64 x)),.d (.v (.int .i64 y))] []=some (.d (.v (.int .i64 (iB x y))),none):=by
 have LJ:∀ m z,CL E2 (m+20) 282 [.d (.v (.int .i64 z))] []=some (.d (.v (.bool false)),none):=by
  intro m z;rw[av rfl (k282:E2.fn _=_) rfl];simp -implicitDefEqProofs[f282]
 rw[av rfl (k255:E2.fn _=_) rfl];unfold iB
 by_cases h1:x<y
 ·simp -implicitDefEqProofs[f255,LJ,h1]
 ·by_cases h2:y<x
  ·simp -implicitDefEqProofs[f255,LJ,h1,h2]
  ·simp -implicitDefEqProofs[f255,LJ,h1,h2]
theorem Jc (n:Nat)(d e:Int × Int × Int):CL E2 (n+200) 204 [.d (lM d),.d (lM e)] []=some (.d (.v (.int .i64 (jb d e))),none):=by
 obtain⟨a,b,c⟩:=d;obtain⟨a',b',c'⟩:=e;have c1:=fun m=>yI m a' a
 have c2:=fun m=>yI m b' b
 have c3:=fun m=>yI m c' c
 rw[av rfl (k204:E2.fn _=_) rfl];simp only[lM,jb];have w1:ah .i64 1=1:=wrap_i64 omK;have w2:ah .i64 2=2:=wrap_i64 omK;have w3:ah .i64 3=3:=wrap_i64 omK;generalize iB a' a=x,iB b' b=y,iB c' c=z at*
 by_cases h1:x=0
 ·subst h1
  by_cases h2:y=0
  ·subst h2
   by_cases h3:z=0
   ·subst h3;simp -implicitDefEqProofs[f204,aC,w1,w2,w3,c1,c2,c3]
   ·have e3:(z != 0)=true:=by simpa using h3
    simp -implicitDefEqProofs[f204,aC,w1,w2,w3,c1,c2,c3,e3]
  ·have e2:(y != 0)=true:=by simpa using h2
   simp -implicitDefEqProofs[f204,aC,w1,w2,w3,c1,c2,c3,e2,h2]
 ·have e1:(x != 0)=true:=by simpa using h1
  simp -implicitDefEqProofs[f204,aC,w1,w2,w3,c1,c2,c3,e1,h1]
def Ai (e:Int × Int × Int)(x y z:D):D:=.a [.v (.int .i64 e.1),.v (.int .i64 e.2.1),.v (.int .i64 e.2.2),x,y,z]
theorem Qd (n:Nat)(d e:Int × Int × Int)(x y z x' y' z':D)(h:x.one=true/\y.one=true/\z.one=true/\x'.one=true/\y'.one=true/\z'.one=true) :
  CL E2 (n+300) 257 [.d (Ai d x y z),.d (Ai e x' y' z')] []=some (.d (.v (.int .i64 (jb d e))),none):=by
 have t:=fun m=>Jc m d e
 rw[av rfl (k257:E2.fn _=_) rfl];obtain⟨h1,h2,h3,h4,h5,h6⟩:=h;obtain⟨a,b,c⟩:=d;obtain⟨a',b',c'⟩:=e;simp only[Ai,lM]at*;generalize jb (a,b,c) (a',b',c')=r at*;have hi:∀ k n,D.one (.v (.int k n))=true:=fun _ _=>rfl
 simp -implicitDefEqProofs[f257,t,h1,h2,h3,h4,h5,h6,hi,-D.one]
end Fi.S
namespace Fi.S
open Go Fi
set_option maxHeartbeats 8000000
section
theorem BX (x y:Int):iB x y<0↔x<y:=by
 unfold iB
 by_cases h1:x<y
 ·simp[h1]
 ·by_cases h2:y<x<;>simp[h1,h2]
theorem t_ (x y:Int):iB x y=0↔x=y:=by
 unfold iB
 by_cases h1:x<y
 ·simp[h1];omega
 ·by_cases h2:y<x
  ·simp[h1,h2];omega
  ·simp[h1,h2];omega
def kV (d e:Int × Int × Int):Bool:=decide (jb d e<0)
theorem lY (d e:Int × Int × Int):kV d e=true↔(e.1<d.1\/e.1=d.1/\(e.2.1<d.2.1\/e.2.1=d.2.1/\e.2.2<d.2.2)):=by
 unfold kV jb;rw[decide_eq_true_iff]
 by_cases h1:iB e.1 d.1=0
 ·rw[if_neg (by simp[h1])];rw[t_]at h1
  by_cases h2:iB e.2.1 d.2.1=0
  ·rw[if_neg (by simp[h2])];rw[t_]at h2;rw[BX];omega
  ·rw[if_pos (by simpa using h2),BX];rw[t_]at h2;omega
 ·rw[if_pos (by simpa using h1),BX];rw[t_]at h1;omega
theorem j_ {d e:Int × Int × Int}(h1:kV d e=false)(h2:kV e d=false):d=e:=by
 have a:¬ kV d e=true:=by simp[h1]
 have b:¬ kV e d=true:=by simp[h2]
 rw[lY]at a b;obtain⟨x,y,z⟩:=d;obtain⟨x',y',z'⟩:=e;simp only at a b;simp only[Qm2];omega
def Ue:D->Bool
 | .a [.v (.int .i64 _),.v (.int .i64 _),.v (.int .i64 _),x,y,z]=>x.one&&y.one&&z.one
 | _=>false
def BZ:D->Int × Int × Int
 | .a (.v (.int _ a)::.v (.int _ b)::.v (.int _ c)::_)=>(a,b,c)
 | _=>(0,0,0)
def uN (x y:D):Bool := !kV (BZ y) (BZ x)
theorem Uf {d:D}(h:Ue d=true):∃ x y z,d=Ai (BZ d) x y z/\x.one=true/\y.one=true/\z.one=true:=by
 unfold Ue at h;split at h
 ·simp only[Qb2]at h;exact⟨_,_,_,rfl,h.1.1,h.1.2,h.2⟩
 ·cases h
def yJ (es:List D):Bool:=es.all Ue&&decide (es.map BZ).Nodup&&decide (es.length<=1000000)
def B_ (cmp:Nat)(args:List FV)(B:List ae):bG :=
 match args with
 | [.ls (.old i) az 6 0 n,.d (.fn g)]=>if g=cmp then(match B[i]? with
  | some (.row jC 6 es)=>if az=jC/\n=es.length/\yJ es=true then some (.d (.t []),some (B.set i (.row az 6 (es.mergeSort uN)))) else none
  | _=>none) else none
 | [.d (.n 6),.d (.fn g)]=>if g=cmp then some (.d (.t []),none) else none
 | _=>none
section any
variable {σ:Nat->Option FuncId} {β:Fi.Map} {I Wr:Nat->Prop} {w:World} {n:Nat} {H:List ae}
theorem aI.YD {f:FV}{x:Value}(h:aI σ β I w n f x)(hd:∀ k v x,β k v=some x->k<n)(n':Nat):aI σ β I w n' f x:=by
 have abs:∀ (p:Ref) v x,β (p.abs n) v=some x->p.abs n=p.abs n':=by
  intro p v x hp;cases p with
  | loc i=>have:=hd _ _ _ hp;simp only[Ref.abs]at this;omega
  | old i=>rfl
 induction h with
 | u x=>exact .u x
 | d h=>exact .d h
 | r h=>exact .r (by rw[<-abs _ _ _ h];exact h)
 | e h=>exact .e (by rw[<-abs _ _ _ h];exact h)
 | rc hb ho h=>exact .rc hb ho h
 | ls h hl ho=>exact .ls (by rw[<-abs _ _ _ h];exact h) hl ho
 | m h=>exact .m (by rw[<-abs _ _ _ h];exact h)
 | z=>exact .z
 | f h h1 h2 _ _ ih1 ih2=>exact .f h h1 h2 ih1 ih2
 | a hl _ ih=>exact .a hl ih
 | t hl _ ih=>exact .t hl ih
theorem aH.YD (h:aH σ H.length β I Wr (fun _=>True) H w)(n':Nat)(wd':Nat->Prop):aH σ n' β I Wr wd' H w :=
 h.afd h.jX (fun k o b bo cap h1 h2 _=>(h.wr k o b bo cap h1 h2).1 trivial) (fun k cs b bo cap h1 h2 j f x h3 h4=>aI.YD h4 h.dom n')
end any
section sort
end sort
end
section sort
end sort
section sort
end sort
end Fi.S
noncomputable section
namespace Fi.S
open Go Fi
set_option maxHeartbeats 8000000
def E3:Env:={fn:=fn,d9:=d9,ja:=uK,iF:=fun g=>bif Nat.beq g 256 then some (B_ 257) else none}
theorem ab4:E0.Le E3:=⟨rfl,rfl,rfl,fun g p hp=>by cases hp⟩
def qC (e:Int × Int × Int)(x:Rat):D:=Ai e (.v (.bool (qs x))) (LD (qn x)) (LD (qd x))
def nY (out:FV)(L:List ae)(es:List D):Prop:=(out=.d (.n 6)/\es=[])\/∃ i az,out=.ls (.loc i) az 6 0 es.length/\L[i]?=some (.row az 6 es)
def Ug:aG:=(.seq (.region [⟨false,none,.load true 3 (.var 4)⟩,⟨false,none,.call 134 [(.loc 0)]⟩,⟨false,none,.bin .neq (.loc 1) (.c (.v (.int .i64 0)))⟩] [(7,2)] []) (.cond (.var 7) (.region [⟨false,none,.Av (.var 2)⟩,⟨false,none,.load true 3 (.var 3)⟩,⟨false,none,.load true 3 (.var 4)⟩,⟨false,none,.build [(.v (.int .i64 0)),(.v (.int .i64 0)),(.v (.int .i64 0)),(.v (.bool false)),(.n 1),(.n 1)] [(0,3,(.loc 1)),(3,3,(.loc 2))]⟩,⟨false,none,.lit 6 true [(.v (.int .i64 0)),(.v (.int .i64 0)),(.v (.int .i64 0)),(.v (.bool false)),(.s 1 []),(.s 1 [])] 1 [(0,(.loc 3))]⟩,⟨false,none,.app 6 80 (.loc 0) (.loc 4)⟩,⟨false,none,.Av (.loc 5)⟩] [(2,6)] []) .skip))
def Oi:aG:=(.seq (.region [⟨false,none,.Av (.var 2)⟩,⟨false,none,.qJ 256 [(.loc 0),(.c (.fn 257))]⟩] [] []) (.seq (.region [⟨false,none,.Av (.var 2)⟩,⟨false,none,.Av (.loc 0)⟩] [(1,1)] []) .ret))
def qR (m res out k1 k2 p b1 b2:FV)(L:List ae):St:=(st0 [m,res,out,k1,k2,p,b1,b2] L)
theorem YE (e:Int × Int × Int)(x:Rat)(hx:qz x<=1000000)(m p b1 b2 out:FV)(k1 k2:Nat)(L:List ae)(es:List D)(ho:nY out L es)(hn:es.length<=1000000)
  (h1:L[k1]?=some (.box [.d (.v (.int .i64 e.1)),.d (.v (.int .i64 e.2.1)),.d (.v (.int .i64 e.2.2))])) (h2:L[k2]?=some (.box [.d (.v (.bool (qs x))),.d (LD (qn x)),.d (LD (qd x))])) :
  ∃ N out' L' b2',EX E3 N Ug (qR m .u out (.r (.loc k1) 0) (.r (.loc k2) 0) p b1 b2 L)=some (.norm,qR m .u out' (.r (.loc k1) 0) (.r (.loc k2) 0) p b1 b2' L')/\nY out' L' (es++if x=0 then [] else [qC e x]):=by
 obtain⟨N,t⟩:=(Ca.up ab4 (wF x hx)).get;have hs:x=0↔x.num.sign=0:=by rw[Q90,Rat.num_eq_zero]
 obtain⟨a,b,c⟩:=e;simp only[qC,Ai,qD,raw]at*;generalize qs x=s at*;simp only[LD]at*;generalize LL (qn x)=ns,LL (qd x)=ds at*;refine⟨N+60,?_⟩
 by_cases h0:x=0
 ·have hz:x.num.sign=0:=hs.1 h0;rw[hz]at t;refine⟨out,L,.d (.v (.bool false)),?_,by rw[if_pos h0,Q91];exact ho⟩;simp -implicitDefEqProofs[qR,Ug,h1,h2,t]
 ·have hz:x.num.sign≠0:=fun h=>h0 (hs.2 h)
  have hz':(x.num.sign != 0)=true:=by simpa using hz
  generalize x.num.sign=sg at*;rw[if_neg h0];rcases ho with ⟨rfl,rfl⟩|⟨i,az,rfl,hrow⟩
  ·refine⟨.ls (.loc L.length) 0 6 0 1,L++[.row 0 6 [.a [.v (.int .i64 a),.v (.int .i64 b),.v (.int .i64 c),.v (.bool s),.s 1 ns,.s 1 ds]]],.d (.v (.bool true)),?_,.inr ⟨L.length,0,rfl,by simp⟩⟩;simp -implicitDefEqProofs[qR,Ug,h1,h2,t,hz,hz',most]
  ·have hm1:(es.length+1)*80<=1099511627776:=by omega
   have hm2:es.length+1<=1099511627776:=by omega
   have hil:i<L.length:=(bD hrow)
   refine⟨.ls (.loc i) (az+1) 6 0 (es.length+1),L.set i (.row (az+1) 6 (es++[.a [.v (.int .i64 a),.v (.int .i64 b),.v (.int .i64 c),.v (.bool s),.s 1 ns,.s 1 ds]])),.d (.v (.bool true)),?_,.inr ⟨i,az+1,by simp,by simp[hil]⟩⟩;simp -implicitDefEqProofs[qR,Ug,h1,h2,hrow,t,hz,hz',most,hm1,hm2]
theorem ab5 (m k1 k2 p b1 b2 out:FV)(L:List ae)(es:List D)(ho:nY out L es)(hok:yJ es=true) :
  ∃ N out' L' aP,EX E3 N Oi (qR m .u out k1 k2 p b1 b2 L)=some (.ret,{vars:=[m,out',out',k1,k2,p,b1,b2],base:=[],loc:=L',aP:=aP})/\nY out' L' (es.mergeSort uN):=by
 rcases ho with ⟨rfl,rfl⟩|⟨i,az,rfl,hrow⟩
 ·have hs:∀ k,CL E3 k 256 [.d (.n 6),.d (.fn 257)] (List.map (ae.aA 0) L)=some (.d (.t []),none):=fun k=>by
   rw[rH (p:=B_ 257) rfl (afe:E3.fn _=_) rfl];rfl
  refine⟨60,.d (.n 6),L,false,?_,.inl ⟨rfl,by simp⟩⟩;simp -implicitDefEqProofs[qR,Oi,hs,FV.aA,FV.aR]
 ·have hs:∀ k,CL E3 k 256 [.ls (.old i) az 6 0 es.length,.d (.fn 257)] (List.map (ae.aA 0) L)=some (.d (.t []),some ((List.map (ae.aA 0) L).set i (.row az 6 (es.mergeSort uN)))):=fun k=>by
   have hB:(List.map (ae.aA 0) L)[i]?=some (.row az 6 es):=by simp[hrow,ae.aA]
   rw[rH (p:=B_ 257) rfl (afe:E3.fn _=_) rfl];simp[B_,hB,hok]
  have hil:i<L.length:=(bD hrow)
  refine⟨60,.ls (.loc i) az 6 0 es.length,(List.map (ae.aA 0) L).set i (.row az 6 (es.mergeSort uN)),false,?_,.inr ⟨i,az,by simp,by simp[hil]⟩⟩;simp -implicitDefEqProofs[qR,Oi,hs,FV.aA,FV.aR]
end Fi.S
