/- Stars of products; SemiringCalculates: its body. -/
import Derived.Test.YtonmcbnjifeagaaGreatDoorCQ
import Derived.Test.YtonmcbnjifeagaaGreatDoorCN
import Derived.Test.YtonmcbnjifeagaaGreatDoorCR
import Derived.Test.YtonmcbnjifeagaaGreatDoorCO
set_option linter.unusedVariables false
set_option linter.unusedSimpArgs false
noncomputable section
namespace Fi.S
open Go Fi
set_option maxHeartbeats 8000000
section
def jI (k:Int)(x z:W)(e:Int):Prop :=
 if k=1 then Ca E1 117 [.d x.d] (.d (.t [z.d,.v (.int .i64 e)]),none)
 else if k=5 then Ca E1 158 [.d x.d] (.d (.t [z.d,.v (.int .i64 e)]),none)
 else e=0/\Ca E1 (rU k) [] (.d z.d,none)
section parts
variable (H:List ae) (iv ie i:Nat) (v0 v1 v2 v3 v4 v5 v6:FV) (vs:List D) (ev:Int) (x z:W)
theorem QC (hv:H[iv]?=some (.box [v0,v1,v2,v3,v4,v5,v6,.d (.s 8 vs)]))(he:H[ie]?=some (.box [.d (.v (.int .i64 ev))]))(hx:vs[i]?=some x.d)
  (c0 c1 c2 c3 c4 c6 c7 c8 g M:Nat) (t:∀ m,CL E1 (M+m) g [.d x.d] []=some (.d (.t [z.d,.v (.int .i64 0)]),none)) (m:Nat) :
  CL E1 (M+200+m) 52 [.d (.a [.fn c0,.fn c1,.fn c2,.fn c3,.fn c4,.fn g,.fn c6,.fn c7,.fn c8]),.d (.v (.int .i64 i)),.r (.old iv) 0,.r (.old ie) 0] H=some (.d z.d,none):=by
 have hvl:iv<H.length:=(bE hv)
 have hel:ie<H.length:=(bE he)
 have gv:∀ L,(H++L)[iv]?=some (.box [v0,v1,v2,v3,v4,v5,v6,.d (.s 8 vs)]):=fun L=>by rw[List.getElem?_append_left hvl];exact hv
 have ge:∀ L,(H++L)[ie]?=some (.box [.d (.v (.int .i64 ev))]):=fun L=>by rw[List.getElem?_append_left hel];exact he
 have i1:i<vs.length:=(bE hx)
 have hi0:(0:Int)<=(i:Int):=by omega
 obtain⟨xs,Eb,Ec,xc,xb,xu,xp,Ed,ex⟩:=x.av;obtain⟨zs,wH,wI,zc,zb,zu,zp,wJ,ez⟩:=z.av;rw[ex]at hx t;rw[ez]at t ⊢;replace t:=fun k=>t (m+k)
 simp only[<-Nat.add_assoc]at t;rw[show M+200+m=M+m+200 by omega];generalize M+m=n at*;rw[ah rfl (k52:E1.fn _=_) rfl];unfold wD at*;have j1:=idx hx;simp -implicitDefEqProofs [f52,t,gv,ge,i1,hi0,j1,hx,jb]
theorem QD (hv:H[iv]?=some (.box [v0,v1,v2,v3,v4,v5,v6,.d (.s 8 vs)]))(he:H[ie]?=some (.box [.d (.v (.int .i64 ev))]))(hx:vs[i]?=some x.d)
  (c0 c1 c2 c3 c4 c6 c7 c8 g M j b:Nat) (hj:H[j]?=some (.box [.d (.fn g)])) (t:∀ (B:List ae) (j:Nat),B[j]?=some (.box [.d (.fn g)])->∀ m,CL E1 (M+m) 195 [.d x.d,.r (.old j) 0] B=some (.d (.t [z.d,.v (.int .i64 0)]),none)) (m:Nat) :
  CL E1 (M+200+m) 52 [.a [.d (.fn c0),.d (.fn c1),.d (.fn c2),.d (.fn c3),.d (.fn c4),.f 195 [] [.r (.old j) 0],.d (.fn c6),.d (.fn c7),.f c8 [] [.r (.old b) 0]],.d (.v (.int .i64 i)),.r (.old iv) 0,.r (.old ie) 0] H=some (.d z.d,none):=by
 have hvl:iv<H.length:=(bE hv)
 have hel:ie<H.length:=(bE he)
 have hjl:j<H.length:=(bE hj)
 have gv:∀ L,(H++L)[iv]?=some (.box [v0,v1,v2,v3,v4,v5,v6,.d (.s 8 vs)]):=fun L=>by rw[List.getElem?_append_left hvl];exact hv
 have ge:∀ L,(H++L)[ie]?=some (.box [.d (.v (.int .i64 ev))]):=fun L=>by rw[List.getElem?_append_left hel];exact he
 have i1:i<vs.length:=(bE hx)
 have hi0:(0:Int)<=(i:Int):=by omega
 obtain⟨xs,Eb,Ec,xc,xb,xu,xp,Ed,ex⟩:=x.av;obtain⟨zs,wH,wI,zc,zb,zu,zp,wJ,ez⟩:=z.av;rw[ex]at hx t;rw[ez]at t ⊢;have gj:∀ L,(List.map (ae.ag H.length) H++L)[j]?=some (.box [.d (.fn g)]):=fun L=>by rw[List.getElem?_append_left (by simpa using hjl),List.getElem?_map,hj];simp[ae.ag,FV.aK,FV.ag]
 replace t:=fun L k=>t (List.map (ae.ag H.length) H++L) j (gj L) (m+k)
 simp only[<-Nat.add_assoc]at t;rw[show M+200+m=M+m+200 by omega];generalize M+m=n at*;rw[ah rfl (k52:E1.fn _=_) rfl];unfold wD at*;have j1:=idx hx;simp -implicitDefEqProofs [f52,t,FV.ag,FV.aK,gv,ge,i1,hi0,j1,hx,jb]
theorem Xz (hv:H[iv]?=some (.box [v0,v1,v2,v3,v4,v5,v6,.d (.s 8 vs)]))(he:H[ie]?=some (.box [.d (.v (.int .i64 ev))]))(hx:vs[i]?=some x.d)
  (c0 c1 c2 c4 c6 c7 c8 g M j b:Nat) (hj:H[j]?=some (.box [.d (.fn g)])) (t:∀ (B:List ae) (j:Nat),B[j]?=some (.box [.d (.fn g)])->∀ m,CL E1 (M+m) 195 [.d x.d,.r (.old j) 0] B=some (.d (.t [z.d,.v (.int .i64 0)]),none)) (m:Nat) :
  CL E1 (M+200+m) 52 [.a [.d (.fn c0),.d (.fn c1),.d (.fn c2),.f 137 [] [.r (.old b) 0],.d (.fn c4),.f 195 [] [.r (.old j) 0],.d (.fn c6),.d (.fn c7),.f c8 [] [.r (.old b) 0]],.d (.v (.int .i64 i)),.r (.old iv) 0,.r (.old ie) 0] H=some (.d z.d,none):=by
 have hvl:iv<H.length:=(bE hv)
 have hel:ie<H.length:=(bE he)
 have hjl:j<H.length:=(bE hj)
 have gv:∀ L,(H++L)[iv]?=some (.box [v0,v1,v2,v3,v4,v5,v6,.d (.s 8 vs)]):=fun L=>by rw[List.getElem?_append_left hvl];exact hv
 have ge:∀ L,(H++L)[ie]?=some (.box [.d (.v (.int .i64 ev))]):=fun L=>by rw[List.getElem?_append_left hel];exact he
 have i1:i<vs.length:=(bE hx)
 have hi0:(0:Int)<=(i:Int):=by omega
 obtain⟨xs,Eb,Ec,xc,xb,xu,xp,Ed,ex⟩:=x.av;obtain⟨zs,wH,wI,zc,zb,zu,zp,wJ,ez⟩:=z.av;rw[ex]at hx t;rw[ez]at t ⊢;have gj:∀ L,(List.map (ae.ag H.length) H++L)[j]?=some (.box [.d (.fn g)]):=fun L=>by rw[List.getElem?_append_left (by simpa using hjl),List.getElem?_map,hj];simp[ae.ag,FV.aK,FV.ag]
 replace t:=fun L k=>t (List.map (ae.ag H.length) H++L) j (gj L) (m+k)
 simp only[<-Nat.add_assoc]at t;rw[show M+200+m=M+m+200 by omega];generalize M+m=n at*;rw[ah rfl (k52:E1.fn _=_) rfl];unfold wD at*;have j1:=idx hx;simp -implicitDefEqProofs [f52,t,FV.ag,FV.aK,gv,ge,i1,hi0,j1,hx,jb]
theorem QE (hv:H[iv]?=some (.box [v0,v1,v2,v3,v4,v5,v6,.d (.s 8 vs)]))(he:H[ie]?=some (.box [.d (.v (.int .i64 ev))]))(hx:vs[i]?=some x.d)(hH:∀ o ∈ H,∀ n,ae.ag n o=o)
  (c0 c1 c2 c3 c4 c6 c7 c8 g M:Nat) (t:∀ m,CL E1 (M+m) g [.d x.d] []=some (.d (.t [z.d,.v (.int .i64 7)]),none)) :
  ∃ X:List ae,∀ m,CL E1 (M+200+m) 52 [.d (.a [.fn c0,.fn c1,.fn c2,.fn c3,.fn c4,.fn g,.fn c6,.fn c7,.fn c8]),.d (.v (.int .i64 i)),.r (.old iv) 0,.r (.old ie) 0] H=some (.d z.d,some (H.set ie (.box [.d (.v (.int .i64 7))])++X)):=by
 have hvl:iv<H.length:=(bE hv)
 have hel:ie<H.length:=(bE he)
 have gv:∀ L,(H++L)[iv]?=some (.box [v0,v1,v2,v3,v4,v5,v6,.d (.s 8 vs)]):=fun L=>by rw[List.getElem?_append_left hvl];exact hv
 have ge:∀ L,(H++L)[ie]?=some (.box [.d (.v (.int .i64 ev))]):=fun L=>by rw[List.getElem?_append_left hel];exact he
 have i1:i<vs.length:=(bE hx)
 have hi0:(0:Int)<=(i:Int):=by omega
 obtain⟨xs,Eb,Ec,xc,xb,xu,xp,Ed,ex⟩:=x.av;obtain⟨zs,wH,wI,zc,zb,zu,zp,wJ,ez⟩:=z.av;rw[ex]at hx t;rw[ez]at t ⊢;refine⟨[.box [.d (.fn c0),.d (.fn c1),.d (.fn c2),.d (.fn c3),.d (.fn c4),.d (.fn g),.d (.fn c6),.d (.fn c7),.d (.fn c8)],.box [.d (.v (.bool zs)),.d (.s 1 wH),.d (.s 1 wI),.d (.v (.int .i64 zc)),.d (.v (.bool zb)),.d (.v (.int .u64 zu)),.d (.s 6 zp),.d (.s 8 wJ)],.box [.d (.v (.bool zs)),.d (.s 1 wH),.d (.s 1 wI),.d (.v (.int .i64 zc)),.d (.v (.bool zb)),.d (.v (.int .u64 zu)),.d (.s 6 zp),.d (.s 8 wJ)]],fun m => ?_⟩;have hH2:∀ n,(H.set ie (.box [.d (.v (.int .i64 7))])).map (ae.ag n)=H.set ie (.box [.d (.v (.int .i64 7))]):=fun n=>by
  refine(List.map_congr_left (g:=id) fun o ho => ?_).trans (List.map_id _);rcases List.mem_or_eq_of_mem_set ho with h|rfl
  ·exact hH o h n
  ·simp[ae.ag,FV.aK,FV.ag]
 replace t:=fun k=>t (m+k)
 simp only[<-Nat.add_assoc]at t;rw[show M+200+m=M+m+200 by omega];generalize M+m=n at*;rw[ah rfl (k52:E1.fn _=_) rfl];unfold wD at*;have j1:=idx hx;simp -implicitDefEqProofs [f52,t,gv,ge,i1,hi0,hel,j1,hx,hH2,jb,FV.ag,FV.aK,ae.ag]
theorem L9 {k:Int}(hk:single k=true)(h:jI k x z 0)(hx:vs[i]?=some x.d):vC 52 iv ie (.box [v0,v1,v2,v3,v4,v5,v6,.d (.s 8 vs)]) (.box [.d (.v (.int .i64 ev))]) k i z:=by
 unfold jI at h;rcases aM hk with rfl|rfl|rfl|rfl|rfl
 ·simp only[if_true]at h;obtain⟨N,t⟩:=Ca.get h;exact⟨N+200,fun H o hv he h3 h4 m=>QC H iv ie i v0 v1 v2 v3 v4 v5 v6 vs ev x z hv he hx 108 110 111 113 115 118 119 121 117 N t m⟩
 ·have h':Ca E1 124 [] (.d z.d,none):=by simpa[rU] using h
  obtain⟨N,t⟩:=Dw (x:=x) h';exact⟨N+200,fun H o hv he h3 h4 m=>QD H iv ie i v0 v1 v2 v3 v4 v5 v6 vs ev x z hv he hx 122 123 124 125 127 126 128 131 124 N (o+3) (o+2) (h4 (by decide) (by decide)) t m⟩
 ·have h':Ca E1 111 [] (.d z.d,none):=by simpa[rU] using h
  obtain⟨N,t⟩:=Dw (x:=x) h';exact⟨N+200,fun H o hv he h3 h4 m=>Xz H iv ie i v0 v1 v2 v3 v4 v5 v6 vs ev x z hv he hx 133 110 111 115 136 119 138 111 N (o+3) (o+2) (h4 (by decide) (by decide)) t m⟩
 ·have h':Ca E1 141 [] (.d z.d,none):=by simpa[rU] using h
  obtain⟨N,t⟩:=Dw (x:=x) h';exact⟨N+200,fun H o hv he h3 h4 m=>QD H iv ie i v0 v1 v2 v3 v4 v5 v6 vs ev x z hv he hx 139 140 141 142 143 118 144 147 141 N (o+3) (o+2) (h4 (by decide) (by decide)) t m⟩
 ·have h':Ca E1 158 [.d x.d] (.d (.t [z.d,.v (.int .i64 0)]),none):=by simpa using h
  obtain⟨N,t⟩:=Ca.get h';exact⟨N+200,fun H o hv he h3 h4 m=>QC H iv ie i v0 v1 v2 v3 v4 v5 v6 vs ev x z hv he hx 149 151 152 154 156 118 160 163 158 N t m⟩
end parts
end
mutual
theorem FV.IB (n m:Nat):∀ v:FV,FV.ag n (FV.ag m v)=FV.ag m v
 | .r (.loc _) _ | .r (.old _) _ | .e (.loc _) .. | .e (.old _) .. | .ls (.loc _) .. | .ls (.old _) .. | .m (.loc _) | .m (.old _) | .u | .d _ | .rc _=>by simp[FV.ag]
 | .f g a b=>by simp[FV.ag,FV.qG n m a,FV.qG n m b]
 | .a a=>by simp[FV.ag,FV.qG n m a]
 | .t a=>by simp[FV.ag,FV.qG n m a]
theorem FV.qG (n m:Nat):∀ v:List FV,FV.aK n (FV.aK m v)=FV.aK m v
 | []=>by simp[FV.aK]
 | x::r=>by simp[FV.aK,FV.IB n m x,FV.qG n m r]
end
theorem ae.IB (n m:Nat)(o:ae):ae.ag n (ae.ag m o)=ae.ag m o:=by
 cases o<;>simp[ae.ag,FV.qG]
def XA (kk:Int)(ps:List Int):ae:=.box [.d (.v (.int .i64 kk)),.d (.s 1 (LK .i64 ps))]
def Uq (vs:List D):ae:=.box [.d (.v (.bool false)),.d (.s 1 []),.d (.s 1 []),.d (.v (.int .i64 0)),.d (.v (.bool false)),.d (.v (.int .u64 0)),.d (.s 6 []),.d (.s 8 vs)]
def Ur (ev:Int):ae:=.box [.d (.v (.int .i64 ev))]
def B4 (kk:Int)(ps:List Int)(vs:List D)(ev:Int):List ae:=[XA kk ps,Uq vs,bn (.d (.n 8)),Ur ev]
theorem QF (kk:Int)(ps:List Int)(vs:List D)(ev:Int)(i:Nat)(k:Int)(L:List ae)(dt:Bool)(px:FV)(zs:List D)(x z:W)(hk:ps[i]?=some k)(hs:single k=true)(hn:ps.length<=3)(h:jI k x z 7)(hx:vs[i]?=some x.d)
  (h1:L[1]?=some (bn (.d (.n 8)))) (h2:L[2]?=some (bn px)) (ho:iN px L zs) (hz:zs.length<=3) :
  ∃ rV L',Ex E1 Ee (sK 52 1 3 ps i .u (B4 kk ps vs ev) L dt) (.norm,sK 52 1 3 ps (i+1) .u (B4 kk ps vs 7) L' true)/\L'[1]?=some (bn (.d (.n 8)))/\L'[2]?=some (bn rV)/\iN rV L' (zs++[z.d]):=by
 have Il:1<L.length:=(bE h1)
 have Ao:2<L.length:=(bE h2)
 have hil:i<ps.length:=(bE hk)
 have n1:(LK .i64 ps).length=ps.length:=by simp[LK]
 have e1:(LK .i64 ps)[i]?=some (.v (.int .i64 k)):=by simp[LK,hk]
 have bg:af .i64 ((i:Int)+1)=(i:Int)+1:=wrap_i64 (by omega);have hk1:((i+1:Nat):Int)=(i:Int)+1:=by omega
 have hk0:(0:Int)<=(i:Int):=by omega
 have hkc:(i:Int)<(ps.length:Int):=by omega
 have hH:∀ o ∈ B4 kk ps vs ev++List.map (ae.ag 4) L,∀ n,ae.ag n o=o:=fun o ho n=>by
  rcases List.mem_append.1 ho with h|h
  ·simp only[B4,List.mem_cons,List.not_mem_nil,or_false]at h;rcases h with rfl|rfl|rfl|rfl<;>simp[XA,Uq,bn,Ur,ae.ag,FV.aK,FV.ag]
  ·obtain⟨o',_,rfl⟩:=List.mem_map.1 h;exact ae.IB _ _ _
 obtain⟨PW,wH,wI,zc,zb,zu,zp,wJ,ez⟩:=z.av;have hp:k=1\/k=5:=by
  rcases aM hs with rfl|rfl|rfl|rfl|rfl<;>simp[jI]at h ⊢
 have ht:∃ N X,∀ m,CL E1 (N+m) 52 [(jG k).1,.d (.v (.int .i64 i)),.r (.old 1) 0,.r (.old 3) 0] (B4 kk ps vs ev++List.map (ae.ag 4) L)=some (.d z.d,some ((B4 kk ps vs ev++List.map (ae.ag 4) L).set 3 (.box [.d (.v (.int .i64 7))])++X)):=by
  rcases hp with rfl|rfl
  ·have h':Ca E1 117 [.d x.d] (.d (.t [z.d,.v (.int .i64 7)]),none):=by simpa[jI] using h
   obtain⟨N,t⟩:=Ca.get h';exact⟨N+200,QE (B4 kk ps vs ev++List.map (ae.ag 4) L) 1 3 i (.d (.v (.bool false))) (.d (.s 1 [])) (.d (.s 1 [])) (.d (.v (.int .i64 0))) (.d (.v (.bool false))) (.d (.v (.int .u64 0))) (.d (.s 6 [])) vs ev x z rfl rfl hx hH 108 110 111 113 115 118 119 121 117 N t⟩
  ·have h':Ca E1 158 [.d x.d] (.d (.t [z.d,.v (.int .i64 7)]),none):=by simpa[jI] using h
   obtain⟨N,t⟩:=Ca.get h';exact⟨N+200,QE (B4 kk ps vs ev++List.map (ae.ag 4) L) 1 3 i (.d (.v (.bool false))) (.d (.s 1 [])) (.d (.s 1 [])) (.d (.v (.int .i64 0))) (.d (.v (.bool false))) (.d (.v (.int .u64 0))) (.d (.s 6 [])) vs ev x z rfl rfl hx hH 149 151 152 154 156 118 160 163 158 N t⟩
 obtain⟨N,X,t⟩:=ht;obtain⟨K,t42⟩:=(qw hs).any;obtain⟨M,hM⟩:∃ M,M=N+K:=⟨_,rfl⟩
 replace t42:=t42 M (by omega);replace t:=fun m=>bZ (t 0) (show N+0<=M+m by omega)
 rw[show(B4 kk ps vs ev++List.map (ae.ag 4) L).set 3 (.box [.d (.v (.int .i64 7))])=XA kk ps::Uq vs::bn (.d (.n 8))::Ur 7::List.map (ae.ag 4) L from rfl,show B4 kk ps vs ev++List.map (ae.ag 4) L=XA kk ps::Uq vs::bn (.d (.n 8))::Ur ev::List.map (ae.ag 4) L from rfl]at t;simp only[List.cons_append]at t;rw[ez]at t ⊢;have tk:List.take L.length (List.map (ae.ag 4) L++X)=List.map (ae.ag 4) L:=List.take_left' (by simp);have dk:∀ a b c d:ae,List.drop (4+L.length) (a::b::c::d::(List.map (ae.ag 4) L++X))=X:=fun a b c d=>by
  rw[show 4+L.length=L.length+1+1+1+1 by omega];simp only[List.drop_succ_cons];exact List.drop_left' (by simp)
 have dk2:∀ a b c d:ae,List.drop (L.length+4) (a::b::c::d::(List.map (ae.ag 4) L++X))=X:=fun a b c d=>by rw[Nat.add_comm];exact dk a b c d
 have g2:∀ X,(L++X)[2]?=some (bn px):=fun X=>by rw[List.getElem?_append_left Ao];exact h2
 unfold B4 XA Uq Ur wD at*;clear h hH hk;rcases ho with ⟨rfl,rfl⟩|⟨j,az,rfl,hj⟩
 ·refine⟨.ls (.loc (L.length+X.length)) 0 8 0 1,(L.set 2 (bn (.ls (.loc (L.length+X.length)) 0 8 0 1)))++X++[.row 0 8 [(.a [D.v (.bool PW),.s 1 wH,.s 1 wI,.v (.int .i64 zc),.v (.bool zb),.v (.int .u64 zu),.s 6 zp,.s 8 wJ])]],Ex.of (n:=M+100) ?_,?_,?_,.inr ⟨(L.length+X.length),0,rfl,by simp⟩⟩
  ·unfold sK;rw[hk1];clear h1;unfold bn at*;generalize LK .i64 ps=l1 at*;have i1:=idx e1;have i2:=idx h2;rcases hp with rfl|rfl
   all_goals
    simp[jG,eQ,ll,eP]at t42 t;simp -implicitDefEqProofs [Ee,f43,bg,hk0,hkc,hil,n1,e1,i1,t42,t,FV.ag,FV.aK,FV.shift,FV.cK,ae.shift,ae.ag,most,cB,dZ,checked,lI,AO,Ref.abs,tk,dk,dk2,i2,h2,Ao,g2]
  ·rw[List.append_assoc,List.getElem?_append_left (by simpa using Il),List.getElem?_set_ne (by omega)];exact h1
  ·rw[List.append_assoc,List.getElem?_append_left (by simpa using Ao)];exact List.getElem?_set_self Ao
 ·have hjl:j<L.length:=(bE hj)
  have hj2:j≠2:=fun h=>by
   subst h;rw[h2]at hj;cases hj
  have hj1:j≠1:=fun h=>by
   subst h;rw[h1]at hj;cases hj
  have gj:∀ X,(L++X)[j]?=some (.row az 8 zs):=fun X=>by rw[List.getElem?_append_left hjl];exact hj
  have s2:∀ r,(L.set j r)[2]?=some (bn (.ls (.loc j) az 8 0 zs.length)):=fun r=>by rw[List.getElem?_set_ne hj2];exact h2
  have ZO:∀ r X,(L.set j r++X)[2]?=some (bn (.ls (.loc j) az 8 0 zs.length)):=fun r X=>by rw[List.getElem?_append_left (by simpa using Ao)];exact s2 r
  have m1:(zs.length+1)*128<=1099511627776:=by omega
  have m2:zs.length+1<=1099511627776:=by omega
  refine⟨.ls (.loc j) (az+1) 8 0 (zs.length+1),((L.set j (.row (az+1) 8 (zs++[(.a [D.v (.bool PW),.s 1 wH,.s 1 wI,.v (.int .i64 zc),.v (.bool zb),.v (.int .u64 zu),.s 6 zp,.s 8 wJ])]))).set 2 (bn (.ls (.loc j) (az+1) 8 0 (zs.length+1))))++X,Ex.of (n:=M+100) ?_,?_,?_,.inr ⟨j,az+1,by simp,?_⟩⟩
  ·unfold sK;rw[hk1];clear h1;unfold bn at*;generalize LK .i64 ps=l1 at*;have i1:=idx e1;have i2:=idx h2;have i3:=idx hj;have i4:∀ r (h:2<(L.set j r).length),(L.set j r)[2]=_:=fun r h=>idx (s2 r) h
   rcases hp with rfl|rfl
   all_goals
    simp[jG,eQ,ll,eP]at t42 t;simp -implicitDefEqProofs [Ee,f43,bg,hk0,hkc,hil,n1,e1,i1,t42,t,FV.ag,FV.aK,FV.shift,FV.cK,ae.shift,ae.ag,most,cB,dZ,checked,lI,AO,Ref.abs,tk,dk,dk2,i2,i3,i4,h2,Ao,g2,hj,hjl,gj,s2,ZO,m1,m2]
  ·rw[List.getElem?_append_left (by simpa using Il)];rw[List.getElem?_set_ne (by omega),List.getElem?_set_ne hj1];exact h1
  ·rw[List.getElem?_append_left (by simpa using Ao)];exact List.getElem?_set_self (by simpa using Ao)
  ·rw[List.getElem?_append_left (by simpa using hjl)];rw[List.getElem?_set_ne (fun h=>hj2 h.symm)];exact List.getElem?_set_self hjl
def dR (rs:List (W × Int)):Bool:=rs.any fun r=>r.2 != 0
def eR (rs:List (W × Int)):Int:=if dR rs then 7 else 0
theorem Ka (rs:List (W × Int))(r:W × Int):dR (rs++[r])=(dR rs||r.2 != 0):=by simp[dR]
def IC (vs:List D)(i:Nat)(k:Int)(r:W × Int):Prop:=∃ x:W,vs[i]?=some x.d/\jI k x r.1 r.2/\(r.2=0\/r.2=7)
theorem Us (kk:Int)(ps:List Int)(vs:List D)(rs:List (W × Int))(hs:∀ k ∈ ps,single k=true)(hn:ps.length<=3)(hz:rs.length=ps.length)
  (hst:∀ i k r,ps[i]?=some k->rs[i]?=some r->IC vs i k r) (L:List ae) (h1:L[1]?=some (bn (.d (.n 8)))) (h2:L[2]?=some (bn (.d (.n 8)))) :
  ∃ rV L',Ex E1 (.loop Ee) (sK 52 1 3 ps 0 .u (B4 kk ps vs 0) L) (.exit 0,sK 52 1 3 ps ps.length (.d (.v (.bool false))) (B4 kk ps vs (eR rs)) L' (dR rs))/\L'[1]?=some (bn (.d (.n 8)))/\L'[2]?=some (bn rV)/\iN rV L' (W.ds (rs.map (·.1))):=by
 obtain⟨r,hx,rV,L',rfl,h5,h3,h4⟩:=Ex.inv (E:=E1) (b:=Ee) (α:=Nat × FV × List ae) (S:=fun a=>sK 52 1 3 ps a.1 .u (B4 kk ps vs (eR (rs.take a.1))) a.2.2 (dR (rs.take a.1))) (fun a=>ps.length-a.1)
  (fun a=>a.1<=ps.length/\a.2.2[1]?=some (bn (.d (.n 8)))/\a.2.2[2]?=some (bn a.2.1)/\iN a.2.1 a.2.2 (W.ds ((rs.take a.1).map (·.1))))
  (fun r=>∃ rV L',r=(.exit 0,sK 52 1 3 ps ps.length (.d (.v (.bool false))) (B4 kk ps vs (eR rs)) L' (dR rs))/\L'[1]?=some (bn (.d (.n 8)))/\L'[2]?=some (bn rV)/\iN rV L' (W.ds (rs.map (·.1)))) (by
   rintro⟨i,px,L⟩ ⟨q1,q0,q2,q3⟩;simp only at q1 q0 q2 q3
   by_cases hi:i<ps.length
   ·have hk:ps[i]?=some ps[i]:=List.getElem?_eq_getElem hi;have Am:rs[i]?=some (rs[i]'(by omega)):=List.getElem?_eq_getElem (by omega);have hlen:(W.ds ((rs.take i).map (·.1))).length<=3:=by simp[W.dM];omega
    generalize hr:rs[i]'(by omega)=r at*;obtain⟨x,hxi,hsc,he⟩:=hst i _ _ hk Am;have et:rs.take (i+1)=rs.take i++[r]:=by rw[List.take_add_one,Am];rfl
    have ed:W.ds ((rs.take (i+1)).map (·.1))=W.ds ((rs.take i).map (·.1))++[r.1.d]:=by rw[et];simp only[W.dM,List.map_append,List.map_cons,List.map_nil]
    obtain⟨z,e⟩:=r;simp only at hsc he ed;rcases he with rfl|rfl
    ·have e1:dR (rs.take (i+1))=dR (rs.take i):=by rw[et,Ka];simp
     obtain⟨rV,L',g1,g0,g2,g3⟩:=FD 52 1 3 ps i ps[i] (B4 kk ps vs (eR (rs.take i))) L (dR (rs.take i)) (Uq vs) (Ur (eR (rs.take i))) px _ z hk (hs _ (List.getElem_mem hi)) hn rfl rfl (fun n=>by simp[Uq,ae.ag,FV.aK,FV.ag]) (fun n=>by simp[Ur,ae.ag,FV.aK,FV.ag]) (L9 1 3 i _ _ _ _ _ _ _ vs _ x z (hs _ (List.getElem_mem hi)) hsc hxi) q0 q2 q3 hlen;refine .inl ⟨(i+1,rV,L'),?_,by show ps.length-(i+1)<ps.length-i;omega,by show i+1<=_;omega,g0,g2,?_⟩
     ·show Ex E1 Ee _ (.norm,sK 52 1 3 ps (i+1) .u (B4 kk ps vs (eR (rs.take (i+1)))) L' (dR (rs.take (i+1))));have e2:eR (rs.take (i+1))=eR (rs.take i):=by unfold eR;rw[e1]
      rw[e1,e2];exact g1
     ·show iN rV L' (W.ds ((rs.take (i+1)).map (·.1)));rw[ed];exact g3
    ·have e1:dR (rs.take (i+1))=true:=by rw[et,Ka];simp
     obtain⟨rV,L',g1,g0,g2,g3⟩:=QF kk ps vs (eR (rs.take i)) i ps[i] L (dR (rs.take i)) px _ x z hk (hs _ (List.getElem_mem hi)) hn hsc hxi q0 q2 q3 hlen;refine .inl ⟨(i+1,rV,L'),?_,by show ps.length-(i+1)<ps.length-i;omega,by show i+1<=_;omega,g0,g2,?_⟩
     ·show Ex E1 Ee _ (.norm,sK 52 1 3 ps (i+1) .u (B4 kk ps vs (eR (rs.take (i+1)))) L' (dR (rs.take (i+1))));have e2:eR (rs.take (i+1))=7:=by unfold eR;rw[e1];rfl
      rw[e1,e2];exact g1
     ·show iN rV L' (W.ds ((rs.take (i+1)).map (·.1)));rw[ed];exact g3
   ·obtain rfl:i=ps.length:=by omega
    rw[<-hz,List.take_length]at q3;refine .inr ⟨_,Ex.of (n:=60) ?_,?_,px,L,rfl,q0,q2,q3⟩
    ·rw[<-hz,List.take_length];unfold sK;rw[hz];generalize LK .i64 ps=l1,B4 kk ps vs (eR rs)=b,dR rs=dt,ps.length=n at*;simp -implicitDefEqProofs [Ee,f43]
    ·simp) (0,.d (.n 8),L) ⟨Nat.zero_le _,h1,h2,.inl ⟨rfl,rfl⟩⟩
 exact⟨rV,L',hx,h5,h3,h4⟩
theorem XB (kk:Int)(ps:List Int)(vs:List D)(rs:List (W × Int))(hs:∀ k ∈ ps,single k=true)(hn:ps.length<=3)(hz:rs.length=ps.length)
  (hst:∀ i k r,ps[i]?=some k->rs[i]?=some r->IC vs i k r) :
  ∃ N X,∀ m,CL E1 (N+m) 43 [.d (aT kk ps),.f 52 [] [.r (.old 1) 0,.r (.old 3) 0]] (B4 kk ps vs 0)=some (.d (cu (rs.map (·.1))).d,if dR rs then some (B4 kk ps vs 7++X) else none):=by
 have n1:(LK .i64 ps).length=ps.length:=by simp[LK]
 have hA:Ex E1 f43.body.l {vars:=[.d (aT kk ps),.f 52 [] [.r (.old 1) 0,.r (.old 3) 0],.u,.u,.u,.u,.u,.u,.u,.u,.u],base:=B4 kk ps vs 0,loc:=[],aQ:=false}
   (.norm,{vars:=[.u,.f 52 [] [.r (.old 1) 0,.r (.old 3) 0],.r (.loc 0) 0,.r (.loc 1) 0,.u,.u,.u,.u,.u,.u,.u],base:=B4 kk ps vs 0,loc:=[.box [.d (.v (.int .i64 kk)),.d (.s 1 (LK .i64 ps))],bn (.d (.n 8))],aQ:=false}):=by
  refine Ex.of (n:=60) ?_;unfold aT bn;generalize B4 kk ps vs 0=B,LK .i64 ps=l1 at*;simp -implicitDefEqProofs [f43]
 have hB:Ex E1 f43.body.r.l {vars:=[.u,.f 52 [] [.r (.old 1) 0,.r (.old 3) 0],.r (.loc 0) 0,.r (.loc 1) 0,.u,.u,.u,.u,.u,.u,.u],base:=B4 kk ps vs 0,loc:=[.box [.d (.v (.int .i64 kk)),.d (.s 1 (LK .i64 ps))],bn (.d (.n 8))],aQ:=false}
   (.norm,{vars:=[.u,.f 52 [] [.r (.old 1) 0,.r (.old 3) 0],.r (.loc 0) 0,.r (.loc 1) 0,.r (.loc 2) 0,.u,.u,.u,.u,.u,.u],base:=B4 kk ps vs 0,loc:=[.box [.d (.v (.int .i64 kk)),.d (.s 1 (LK .i64 ps))],bn (.d (.n 8)),bn (.d (.n 8))],aQ:=false}):=by
  refine Ex.of (n:=60) ?_;unfold bn;generalize B4 kk ps vs 0=B,LK .i64 ps=l1 at*;simp -implicitDefEqProofs [f43]
 have hC:Ex E1 f43.body.r.r.l.l {vars:=[.u,.f 52 [] [.r (.old 1) 0,.r (.old 3) 0],.r (.loc 0) 0,.r (.loc 1) 0,.r (.loc 2) 0,.u,.u,.u,.u,.u,.u],base:=B4 kk ps vs 0,loc:=[.box [.d (.v (.int .i64 kk)),.d (.s 1 (LK .i64 ps))],bn (.d (.n 8)),bn (.d (.n 8))],aQ:=false}
   (.norm,sK 52 1 3 ps 0 .u (B4 kk ps vs 0) [.box [.d (.v (.int .i64 kk)),.d (.s 1 (LK .i64 ps))],bn (.d (.n 8)),bn (.d (.n 8))]):=by
  refine Ex.of (n:=60) ?_;unfold sK bn;generalize B4 kk ps vs 0=B,LK .i64 ps=l1 at*;simp -implicitDefEqProofs [f43,n1]
 obtain⟨px,L,hl,h1,h2,ho⟩:=Us kk ps vs rs hs hn hz hst [.box [.d (.v (.int .i64 kk)),.d (.s 1 (LK .i64 ps))],bn (.d (.n 8)),bn (.d (.n 8))] rfl rfl;have hds:∀ zs:List W,(cu zs).d=.a [.v (.bool false),.s 1 [],.s 1 [],.v (.int .i64 0),.v (.bool false),.v (.int .u64 0),.s 6 [],.s 8 (W.ds zs)]:=fun _=>rfl
 have Il:1<L.length:=(bE h1)
 have hD:Ex E1 f43.body.r.r.r (sK 52 1 3 ps ps.length (.d (.v (.bool false))) (B4 kk ps vs (eR rs)) L (dR rs))
   (.ret,{vars:=[.u,.u,.u,.r (.loc 1) 0,.u,.u,.u,.u,.u,.u,.u],base:=B4 kk ps vs (eR rs),loc:=L.set 1 (bn px),aQ:=dR rs}):=by
  refine Ex.of (n:=60) ?_;unfold sK bn at*;generalize B4 kk ps vs (eR rs)=B,dR rs=dt,LK .i64 ps=l1 at*;have i1:=idx h1;have i2:=idx h2;rcases ho with ⟨rfl,_⟩|⟨j,az,rfl,_⟩
  ·simp -implicitDefEqProofs [f43,h1,h2,i1,i2,Il]
  ·simp -implicitDefEqProofs [f43,h1,h2,i1,i2,Il]
 have main:∀ X,finish f43 {vars:=[.u,.u,.u,.r (.loc 1) 0,.u,.u,.u,.u,.u,.u,.u],base:=B4 kk ps vs (eR rs),loc:=L.set 1 (bn px),aQ:=dR rs}=some (.d (cu (rs.map (·.1))).d,if dR rs then some (B4 kk ps vs 7++X) else none) ->
   ∃ N X,∀ m,CL E1 (N+m) 43 [.d (aT kk ps),.f 52 [] [.r (.old 1) 0,.r (.old 3) 0]] (B4 kk ps vs 0)=some (.d (cu (rs.map (·.1))).d,if dR rs then some (B4 kk ps vs 7++X) else none):=fun X hf=>by
  obtain⟨N,t⟩:=JS (E:=E1) (g:=43) (F:=f43) (args:=[.d (aT kk ps),.f 52 [] [.r (.old 1) 0,.r (.old 3) 0]]) (B:=B4 kk ps vs 0) (o:=.ret) rfl (k43:E1.fn _=_) rfl (show Ex E1 (.seq f43.body.l (.seq f43.body.r.l (.seq (.seq f43.body.r.r.l.l (.block 0 (.loop Ee))) f43.body.r.r.r))) _ _ from hA.seq (hB.seq ((hC.seq hl.block).seq hD))) (by intro id h;cases h) hf;exact⟨N,X,t⟩
 have hbt:(B4 kk ps vs 7).map (ae.ag 4)=B4 kk ps vs 7:=by simp[B4,XA,Uq,bn,Ur,ae.ag,FV.aK,FV.ag]
 rcases ho with ⟨rfl,e⟩|⟨j,az,rfl,hj⟩
 ·refine main ((L.set 1 (bn (.d (.n 8)))).map (ae.ag 4)) ?_;rw[hds,e];have s1:∀ o,(L.set 1 o)[1]?=some o:=fun o=>List.getElem?_set_self Il
  unfold bn at*;cases hd:dR rs with
  | false =>
   simp -implicitDefEqProofs [f43,s1]
  | true =>
   have:eR rs=7:=by unfold eR;rw[hd];rfl
   rw[this];have hlen:(B4 kk ps vs 7).length=4:=rfl;generalize B4 kk ps vs 7=B at*;simp -implicitDefEqProofs [f43,s1,hlen,hbt,FV.ag]
 ·have hj1:j≠1:=fun h=>by
   subst h;rw[h1]at hj;cases hj
  have sj:∀ o,(L.set 1 o)[j]?=some (.row az 8 (W.ds (rs.map (·.1)))):=fun o=>by rw[List.getElem?_set_ne (fun h=>hj1 h.symm)];exact hj
  have ev:ae.view az 8 0 (W.ds (rs.map (·.1))).length (.row az 8 (W.ds (rs.map (·.1))))=some (W.ds (rs.map (·.1))):=by simp[ae.view]
  have s1:∀ o,(L.set 1 o)[1]?=some o:=fun o=>List.getElem?_set_self Il
  refine main (((L.set 1 (bn (.ls (.loc j) az 8 0 (W.ds (rs.map (·.1))).length))).set j (.fO az 8 (W.ds (rs.map (·.1))))).map (ae.ag 4)) ?_;rw[hds];unfold bn at*;generalize W.ds (rs.map (·.1))=es at*;cases hd:dR rs with
  | false =>
   simp -implicitDefEqProofs [f43,s1,sj,ev]
  | true =>
   have:eR rs=7:=by unfold eR;rw[hd];rfl
   rw[this];have hlen:(B4 kk ps vs 7).length=4:=rfl;generalize B4 kk ps vs 7=B at*;simp -implicitDefEqProofs [f43,s1,sj,ev,hlen,hbt,FV.ag]
theorem BN {ps:List Int}(hv:aH 6 ps=true)(v:W)(xs:List W)(rs:List (W × Int))(hz:rs.length=ps.length)(tv:Ca E1 41 [.d (aT 6 ps),.d v.d] (.d (cu xs).d,none))
  (hst:∀ i k r,ps[i]?=some k->rs[i]?=some r->IC (W.ds xs) i k r) :
  Ca E1 17 [.d (aT 6 ps),.d v.d] (.d (.t (if dR rs then [wD false [] [] 0 false 0 [] [],.v (.int .i64 7)] else [(cu (rs.map (·.1))).d,.v (.int .i64 0)])),none):=by
 obtain⟨m1,X,t43⟩:=XB 6 ps (W.ds xs) rs (P6 hv).2.2 (by have:=(P6 hv);omega) hz hst;obtain⟨m0,a0⟩:=tv.any;obtain⟨K,hK⟩:∃ K,K=1000+m0+m1:=⟨_,rfl⟩
 replace a0:=a0 K (by omega);replace t43:=fun m=>bZ (t43 0) (show m1+0<=K+m by omega)
 have t31:=fun m=>bZ (lJ hv 0) (show 0+500<=K+m by omega)
 obtain⟨vs,vD,vE,vc,vb,vu,vp,vF,ev⟩:=v.av;have hds:∀ zs:List W,(cu zs).d=.a [.v (.bool false),.s 1 [],.s 1 [],.v (.int .i64 0),.v (.bool false),.v (.int .u64 0),.s 6 [],.s 8 (W.ds zs)]:=fun _=>rfl
 simp only[ev,hds]at*;generalize W.ds xs=es,W.ds (rs.map (·.1))=zs,dR rs=dt at*;clear hK tv hst hds ev hz;refine Ca.a_ (n:=K+200) ?_;rw[ah rfl (k17:E1.fn _=_) rfl];unfold B4 XA Uq bn Ur wD aT at*;generalize LK .i64 ps=l1 at*;cases dt with
 | false =>
  simp only[Bool.false_eq_true,if_false]at t43 ⊢;simp (maxSteps:=1000000) -implicitDefEqProofs [f17,t31,a0,t43,FV.ag,FV.aK,FV.shift,FV.cK,ae.shift,ae.ag,jb,Ref.abs]
 | true =>
  simp only[if_true,List.cons_append,List.nil_append]at t43 ⊢;simp (maxSteps:=1000000) -implicitDefEqProofs [f17,t31,a0,t43,FV.ag,FV.aK,FV.shift,FV.cK,ae.shift,ae.ag,jb,Ref.abs]
end Fi.S
noncomputable section
namespace Fi.S
open Go Fi
set_option maxHeartbeats 8000000
set_option maxRecDepth 10000
def uoB (g:Nat)(k:Int):Bool:=match bX E0 3000 g [] [] with
 | some (.d z,none)=>gH z (AR k)
 | _=>false
theorem uo2:uoB 124 2=true:=by kernel_rfl
theorem uo3:uoB 111 3=true:=by kernel_rfl
theorem uo4:uoB 141 4=true:=by kernel_rfl
theorem IE {g:Nat}{k:Int}(hk:single k=true)(h:uoB g k=true):Ca E1 g [] (.d (wY k).w.d,none):=by
 unfold uoB at h;split at h
 ·rename_i z hz;rw[Ir hk,<-oW h];exact Ca.dO (Ca.of hz)
 ·cases h
def voB (k:Int):Bool:=match bX E0 3000 20 [.d (aT k [])] [] with
 | some (.d z,none)=>gH z (AR k)
 | _=>false
theorem vo2:(voB 2&&voB 3&&voB 4)=true:=by kernel_rfl
theorem IG {k:Int}(hk:single k=true)(h:voB k=true):Ca E1 20 [.d (aT k [])] (.d (wY k).w.d,none):=by
 unfold voB at h;split at h
 ·rename_i z hz;rw[Ir hk,<-oW h];exact Ca.dO (Ca.of hz)
 ·cases h
theorem L_ {l r:List aJ}{e:Int}(h:Ca E1 159 [.d (au l)] (.d (.t [au r,.v (.int .i64 e)]),none)):Ca E1 158 [.d (Sv.p l).w.d] (.d (.t [(Sv.p r).w.d,.v (.int .i64 e)]),none):=by
 obtain⟨K,a0⟩:=h.get;refine Ca.a_ (n:=K+100) ?_;rw[ah rfl (k158:E1.fn _=_) rfl];simp only[FB];unfold au at*;generalize (l.map fun p=>qC p.1 p.2)=x1,(r.map fun p=>qC p.1 p.2)=x2 at*;simp -implicitDefEqProofs [f158,a0,jb]
theorem kC {k:Int}(hk:single k=true){x:Sv}(hx:x.of k 3 8):∃ (s:Sv) (e:Int),s.of k 200 216/\(e=0\/e=7)/\jI k x.w s.w e /\
  ∀ v:W,Ca E1 53 [.d (aT k []),.d v.d] (.d x.w.d,none)->Ca E1 23 [.d (aT k []),.d v.d] (.d (.t [s.w.d,.v (.int .i64 e)]),none):=by
 have hv:=vo2;simp only[Bool.and_eq_true]at hv;rcases aM hk with rfl|rfl|rfl|rfl|rfl
 ·obtain⟨q,rfl,hq⟩:=Xr hx;have c:=Ui q (by omega)
  by_cases h:q.abs<1
  ·rw[if_pos h]at c;have h1:=jg;have h2:=oL 1 q;have hne:(1:Rat)-q≠0:=by
    intro h0;have:q=1:=by grind
    rw[this]at h;exact absurd h (by decide)
   have h3:=NY 1 (1-q) hne;refine⟨.q (1 / (1-q)),0,⟨.inl rfl,by omega⟩,.inl rfl,by simpa[jI] using c,fun v t => ?_⟩;have:=QB v q (by omega) t
   rwa [if_pos h]at this
  ·rw[if_neg h]at c;refine⟨.q 0,7,⟨.inl rfl,Nat.le_trans fE (by omega)⟩,.inr rfl,by simpa[jI] using c,fun v t => ?_⟩;have:=QB v q (by omega) t
   rwa [if_neg h]at this
 ·exact⟨wY 2,0,Dr rfl _ _ (by omega) (by omega),.inl rfl,by simpa[jI,rU] using IE rfl uo2,fun v t=>Iw (by omega) v _ _ t (IG rfl hv.1.1)⟩
 ·exact⟨wY 3,0,Dr rfl _ _ (by omega) (by omega),.inl rfl,by simpa[jI,rU] using IE rfl uo3,fun v t=>Iw (by omega) v _ _ t (IG rfl hv.1.2)⟩
 ·exact⟨wY 4,0,Dr rfl _ _ (by omega) (by omega),.inl rfl,by simpa[jI,rU] using IE rfl uo4,fun v t=>Iw (by omega) v _ _ t (IG rfl hv.2)⟩
 ·obtain⟨p,rfl,hp,hl⟩:=Xt hx
  by_cases h:(bV p).abs<1
  ·have h1:=rW hp hl;have hs:PV 200 (nY p):=h1.1.so 6 (by omega);exact⟨.p (nY p),0,⟨rfl,hs,hs.length⟩,.inl rfl,by simpa[jI] using Qw (FW hp hl h),fun v t=>QA v p (nY p) 0 t (DC hp hl h)⟩
  ·have hq:qz (bV p)<=3:=nE (by omega) (dG hp.zi) hp.bd _;exact⟨.p [],7,⟨rfl,PV.nil _,by simp⟩,.inr rfl,by simpa[jI] using L_ (L8 hp (by omega) (by omega) h),fun v t=>QA v p [] 7 t (Iz hp (by omega) (by omega) (by omega) h)⟩
theorem II {k:Int}(hk:single k=true)(v x z:W)(e:Int)(tv:Ca E1 41 [.d (aT k []),.d v.d] (.d x.d,none))(h:jI k x z e):Ca E1 17 [.d (aT k []),.d v.d] (.d (.t [z.d,.v (.int .i64 e)]),none):=by
 have hr:∃ N,(k=1->∀ m,CL E1 (N+m) 117 [.d x.d] []=some (.d (.t [z.d,.v (.int .i64 e)]),none))/\(k=5->∀ m,CL E1 (N+m) 158 [.d x.d] []=some (.d (.t [z.d,.v (.int .i64 e)]),none)) /\
   (k≠1->k≠5->e=0/\∀ (B:List ae) (j:Nat),B[j]?=some (.box [.d (.fn (rU k))])->∀ m,CL E1 (N+m) 195 [.d x.d,.r (.old j) 0] B=some (.d (.t [z.d,.v (.int .i64 0)]),none)):=by
  unfold jI at h;split at h
  ·obtain⟨N,t⟩:=Ca.get h;exact⟨N,fun _=>t,fun h=>by omega,fun h=>by omega⟩
  ·split at h
   ·obtain⟨N,t⟩:=Ca.get h;exact⟨N,fun h=>by omega,fun _=>t,fun _ h=>by omega⟩
   ·obtain⟨N,t⟩:=Dw (x:=x) h.2;exact⟨N,fun h=>by omega,fun h=>by omega,fun _ _=>⟨h.1,t⟩⟩
 obtain⟨N3,r1,r5,r2⟩:=hr;obtain⟨N1,t1⟩:=tv.any;obtain⟨N4,t42⟩:=(qw hk).any;obtain⟨K,hK⟩:∃ K,K=N1+N4+N3+500:=⟨_,rfl⟩
 replace t1:=t1 K (by omega);replace t42:=t42 K (by omega);replace r1:=fun h m=>bZ (r1 h 0) (show N3+0<=K+m by omega)
 replace r5:=fun h m=>bZ (r5 h 0) (show N3+0<=K+m by omega)
 have r3:=fun h h' B j hB m=>bZ ((r2 h h').2 B j hB 0) (show N3+0<=K+m by omega)
 replace r2:=fun h h'=>(r2 h h').1
 have t31:=fun m=>bZ (lJ (sv1 hk) 0) (show 0+500<=K+m by omega)
 obtain⟨vs,vD,vE,vc,vb,vu,vp,vF,ev⟩:=v.av;obtain⟨xs,Eb,Ec,xc,xb,xu,xp,Ed,ex⟩:=x.av;obtain⟨zs,wH,wI,zc,zb,zu,zp,wJ,ez⟩:=z.av;simp only[ev,ex,ez]at t1 r1 r5 r3 ⊢;clear ev ex ez hK tv h;refine Ca.a_ (n:=K+100) ?_;rw[ah rfl (k17:E1.fn _=_) rfl];unfold wD aT at*;simp only[show LK .i64 []=[] from rfl]at*;rcases aM hk with rfl|rfl|rfl|rfl|rfl
 ·replace r1:=r1 rfl;simp[jG,eQ,ll,gz,fA,fT,gB,fB,fU,gD,fC,fV,eP]at t42;simp -implicitDefEqProofs [f17,t31,t1,t42,r1,FV.ag,FV.aK,FV.shift,FV.cK,ae.shift,ae.ag,jb]
 rotate_right
 ·replace r5:=r5 rfl;simp[jG,eQ,ll,gz,fA,fT,gB,fB,fU,gD,fC,fV,eP]at t42;simp -implicitDefEqProofs [f17,t31,t1,t42,r5,FV.ag,FV.aK,FV.shift,FV.cK,ae.shift,ae.ag,jb]
 all_goals
  rw[r2 (by decide) (by decide)];replace r3:=r3 (by decide) (by decide);simp[rU,jG,eQ,ll,gz,fA,fT,gB,fB,fU,gD,fC,fV,eP]at t42 r3;simp -implicitDefEqProofs [f17,t31,t1,t42,r3,FV.ag,FV.aK,FV.shift,FV.cK,ae.shift,ae.ag,jb]
theorem IJ {kk:Int}{ps:List Int}(hv:aH kk ps=true){w:W}(Z8:w.uZ)(Z9:w.bI=true) :
  ∃ (R:W) (e:Int),Ca E1 17 [.d (aT kk ps),.d w.d] (.d (.t [R.d,.v (.int .i64 e)]),none)/\Ca E1 23 [.d (aT kk ps),.d w.d] (.d (.t [R.d,.v (.int .i64 e)]),none)/\Ca E1 12 [.d R.d,.d R.d] (.d (.v (.bool true)),none):=by
 obtain⟨xs,hX,vx,tx⟩:=pI hv Z8 Z9;rcases kT hv hX with ⟨hk,rfl,x,hxs,hx⟩|⟨rfl,a,b,x,y,rfl,hxs,ha,hb,hx,hy⟩|⟨rfl,a,b,c,x,y,z,rfl,hxs,ha,hb,hc,hx,hy,hz⟩
 ·subst hxs;rw[mk_one hk]at vx tx;obtain⟨s,e,hs,_,c1,c2⟩:=kC hk hx;refine⟨s.w,e,II hk w x.w s.w e vx c1,c2 w tx,?_⟩;have:=qA (xs:=[s]) hv (by omega) (xG hk hs)
  rwa [mk_one hk]at this
 ·subst hxs;obtain⟨s0,e0,hs0,he0,c0,r0⟩:=kC ha hx;obtain⟨s1,e1,hs1,he1,c1,r1⟩:=kC hb hy;have vx':Ca E1 41 [.d (aT 6 [a,b]),.d w.d] (.d (cu [x.w,y.w]).d,none):=vx;have h17:=BN hv w [x.w,y.w] [(s0.w,e0),(s1.w,e1)] rfl vx' (fun i k r hk hr=>by
   match i with
   | 0=>cases hk;cases hr;exact⟨x.w,rfl,c0,he0⟩
   | 1=>cases hk;cases hr;exact⟨y.w,rfl,c1,he1⟩
   | i+2=>cases hk)
  have h23:=Un hv w x.w y.w s0.w s1.w he0 he1 tx (r0 x.w (ic ha (by omega) (by omega) hx)) (r1 y.w (ic hb (by omega) (by omega) hy));rcases he0 with rfl|rfl<;>rcases he1 with rfl|rfl
  rotate_left
  iterate 3 exact⟨noW,7,h17,h23,pJ⟩
  refine⟨jS 6 [s0,s1],0,h17,h23,qA (S:=200) (M:=216) hv (by omega) ⟨rfl,fun i k s hk hr => ?_⟩⟩
  match i with
  | 0=>cases hk;cases hr;exact hs0
  | 1=>cases hk;cases hr;exact hs1
  | i+2=>cases hk
 ·subst hxs;obtain⟨s0,e0,hs0,he0,c0,r0⟩:=kC ha hx;obtain⟨s1,e1,hs1,he1,c1,r1⟩:=kC hb hy;obtain⟨s2,e2,hs2,he2,c2,r2⟩:=kC hc hz;have vx':Ca E1 41 [.d (aT 6 [a,b,c]),.d w.d] (.d (cu [x.w,y.w,z.w]).d,none):=vx;have h17:=BN hv w [x.w,y.w,z.w] [(s0.w,e0),(s1.w,e1),(s2.w,e2)] rfl vx' (fun i k r hk hr=>by
   match i with
   | 0=>cases hk;cases hr;exact⟨x.w,rfl,c0,he0⟩
   | 1=>cases hk;cases hr;exact⟨y.w,rfl,c1,he1⟩
   | 2=>cases hk;cases hr;exact⟨z.w,rfl,c2,he2⟩
   | i+3=>cases hk)
  have h23:=Uo hv w x.w y.w z.w s0.w s1.w s2.w he0 he1 he2 tx (r0 x.w (ic ha (by omega) (by omega) hx)) (r1 y.w (ic hb (by omega) (by omega) hy)) (r2 z.w (ic hc (by omega) (by omega) hz));rcases he0 with rfl|rfl<;>rcases he1 with rfl|rfl<;>rcases he2 with rfl|rfl
  rotate_left
  iterate 7 exact⟨noW,7,h17,h23,pJ⟩
  refine⟨jS 6 [s0,s1,s2],0,h17,h23,qA (S:=200) (M:=216) hv (by omega) ⟨rfl,fun i k s hk hr => ?_⟩⟩
  match i with
  | 0=>cases hk;cases hr;exact hs0
  | 1=>cases hk;cases hr;exact hs1
  | 2=>cases hk;cases hr;exact hs2
  | i+3=>cases hk
end Fi.S
namespace Fi.S
open Go Fi
set_option maxHeartbeats 8000000
set_option maxRecDepth 10000
theorem Ma (kk:Int)(ps:List Int){v w:W}(htv:v.uZ)(Z8:w.uZ)(hlv:v.bI=true)(Z9:w.bI=true) :
  ∃ (P T S:W) (e:Int) (b:Bool),(Ca E1 14 [.d (aT kk ps),.d v.d,.d w.d] (.d P.d,none)/\Ca E1 19 [.d (aT kk ps),.d v.d,.d w.d] (.d P.d,none)/\Ca E1 12 [.d P.d,.d P.d] (.d (.v (.bool true)),none)) /\
   (Ca E1 13 [.d (aT kk ps),.d v.d,.d w.d] (.d T.d,none)/\Ca E1 21 [.d (aT kk ps),.d v.d,.d w.d] (.d T.d,none)/\Ca E1 12 [.d T.d,.d T.d] (.d (.v (.bool true)),none)) /\
   (Ca E1 17 [.d (aT kk ps),.d v.d] (.d (.t [S.d,.v (.int .i64 e)]),none)/\Ca E1 23 [.d (aT kk ps),.d v.d] (.d (.t [S.d,.v (.int .i64 e)]),none)/\Ca E1 12 [.d S.d,.d S.d] (.d (.v (.bool true)),none)) /\
   Ca E1 24 [.d (aT kk ps),.d v.d,.d w.d] (.d (.v (.bool b)),none)/\Ca E1 25 [.d (aT kk ps),.d v.d,.d w.d] (.d (.v (.bool b)),none):=by
 cases h:aH kk ps with
 | false =>
  obtain⟨p,t,b,s,p',t',b',s'⟩:=Um h v w;exact⟨noW,noW,noW,6,false,⟨p,p',pJ⟩,⟨t,t',pJ⟩,⟨s,s',pJ⟩,b,b'⟩
 | true =>
  obtain⟨⟨P,p⟩,⟨T,t⟩,b,hb⟩:=Iu h htv Z8 hlv Z9;obtain⟨S,e,s⟩:=IJ h htv hlv;exact⟨P,T,S,e,b,p,t,s,hb⟩
theorem Ut (hA:Ca E1 11 [] (.d (.v (.bool true)),none))(k:Int)(ps:List Int)(v w:W)(hv:v.uZ)(hw:w.uZ):Ca E1 5 [.d (aT k ps),.d v.d,.d w.d] (.d (.v (.bool true)),none):=by
 have l:=Ca.dO (LG k ps v w);cases hq:(decide ((ps.length:Int)<=6)&&v.bI&&w.bI) with
 | false =>
  rw[hq]at l;obtain⟨K,hK,a0,a1⟩:=(hA.j l.any).at 0;obtain⟨vs,vD,vE,vc,vb,vu,vp,vF,ev⟩:=v.av;obtain⟨ws,FH,FI,wc,wb,wu,wp,FJ,ew⟩:=w.av;simp only[ev,ew]at a1 ⊢;clear ev ew hA l hq hK;unfold wD aT at*;generalize LK .i64 ps=l1 at*;refine Ca.a_ (n:=K+100) ?_;rw[ah rfl (k5:E1.fn _=_) rfl];simp -implicitDefEqProofs [f5,a0,a1]
 | true =>
  rw[hq]at l;simp only[Bool.and_eq_true]at hq;obtain⟨P,T,S,e,b,⟨hp1,hp2,hp3⟩,⟨ht1,ht2,ht3⟩,⟨hs1,hs2,hs3⟩,hb1,hb2⟩:=Ma k ps hv hw hq.1.2 hq.2;obtain⟨K,hK,a0,a1,a2,a3,a4,a5,a6,a7,a8,a9,b0,b1,b2⟩:=(hA.j (l.j (hp1.j (hp2.j (hp3.j (ht1.j (ht2.j (ht3.j (hs1.j (hs2.j (hs3.j (hb1.j hb2.any)))))))))))).at 0;obtain⟨vs,vD,vE,vc,vb,vu,vp,vF,ev⟩:=v.av;obtain⟨ws,FH,FI,wc,wb,wu,wp,FJ,ew⟩:=w.av;obtain⟨ps',pl1,pl2,pc,pb,pu,pp,pps,ep⟩:=P.av;obtain⟨ts,tl1,tl2,tc,tb,tu,tp,tps,et⟩:=T.av;obtain⟨ss,sl1,sl2,sc,sb,su,sp,sps,es⟩:=S.av;simp only[ev,ew,ep,et,es]at a1 a2 a3 a4 a5 a6 a7 a8 a9 b0 b1 b2 ⊢;clear ev ew ep et es hA l hq hK hp1 hp2 hp3 ht1 ht2 ht3 hs1 hs2 hs3 hb1 hb2 hv hw;unfold wD aT at*;generalize LK .i64 ps=l1 at*;refine Ca.a_ (n:=K+100) ?_;rw[ah rfl (k5:E1.fn _=_) rfl];simp -implicitDefEqProofs [f5,a0,a1,a2,a3,a4,a5,a6,a7,a8,a9,b0,b1,b2]
end Fi.S
