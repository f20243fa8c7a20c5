import Derived.Test.YtkekcmgkpdkieaaGreatDoorFiE
set_option linter.unusedVariables false
set_option linter.unusedSimpArgs false
namespace Fi
open Go
def R5:IntKind->IntKind->Bool
 | .i8,.i8 | .i16,.i16 | .i32,.i32 | .i64,.i64 | .u8,.u8 | .u16,.u16 | .u32,.u32 | .u64,.u64=>true
 | _,_=>false
theorem VA {a b:IntKind}(h:R5 a b=true):a=b:=by cases a<;>cases b<;>first|rfl|cases h
def Hy:Int->Int->Bool
 | .ofNat a,.ofNat b=>Nat.beq a b
 | .negSucc a,.negSucc b=>Nat.beq a b
 | _,_=>false
theorem VB {a b:Int}(h:Hy a b=true):a=b:=by
 cases a<;>cases b<;>simp only[Hy]at h<;>first|(cases h;done)|(rw[Qk1 h])
def HV:Value->Value->Bool
 | .int k a,.int k' b=>R5 k k'&&Hy a b
 | .bool a,.bool b=>a==b
 | _,_=>false
theorem VC {a b:Value}(h:HV a b=true):a=b:=by
 unfold HV at h;split at h
 ·simp only[Qa2]at h;rw[VA h.1,VB h.2]
 ·rw[eq_of_beq h]
 ·cases h
mutual
def jH:D->D->Bool
 | .v x,.v y=>HV x y
 | .fn a,.fn b=>Nat.beq a b
 | .n a,.n b=>Nat.beq a b
 | .i,.i=>true
 | .s a xs,.s b ys=>Nat.beq a b&&dQ xs ys
 | .a xs,.a ys=>dQ xs ys
 | .t xs,.t ys=>dQ xs ys
 | _,_=>false
def dQ:List D->List D->Bool
 | [],[]=>true
 | x::xs,y::ys=>jH x y&&dQ xs ys
 | _,_=>false
end
mutual
theorem Ba:∀ {x y:D},jH x y=true->x=y
 | .v x,y,h=>by
  cases y<;>simp only[jH]at h<;>first|(cases h;done)|(rw[VC h])
 | .fn a,y,h=>by
  cases y<;>simp only[jH]at h<;>first|(cases h;done)|(rw[Qk1 h])
 | .n a,y,h=>by
  cases y<;>simp only[jH]at h<;>first|(cases h;done)|(rw[Qk1 h])
 | .i,y,h=>by
  cases y<;>simp only[jH]at h<;>first|(cases h;done)|rfl
 | .s a xs,y,h=>by
  cases y<;>simp only[jH]at h<;>first|(cases h;done)|skip
  simp only[Qa2]at h;rw[Qk1 h.1,wW h.2]
 | .a xs,y,h=>by
  cases y<;>simp only[jH]at h<;>first|(cases h;done)|(rw[wW h])
 | .t xs,y,h=>by
  cases y<;>simp only[jH]at h<;>first|(cases h;done)|(rw[wW h])
theorem wW:∀ {xs ys:List D},dQ xs ys=true->xs=ys
 | [],ys,h=>by
  cases ys with
  | nil=>rfl
  | cons _ _=>simp only[dQ]at h;cases h
 | x::xs,ys,h=>by
  cases ys with
  | nil=>simp only[dQ]at h;cases h
  | cons y ys =>
   simp only[dQ,Qa2]at h;rw[Ba h.1,wW h.2]
end
theorem aaK {n:Nat}{f:Nat->Bool}(h:(List.range n).all f=true){i:Nat}(hi:i<n):f i=true:=Qf0.1 h i (X40.2 hi)
section
theorem EL {α:Sort _}(a:α):∃ z,z=a:=⟨a,rfl⟩
noncomputable def ql {α:Sort _} (a:α):α:=Classical.choose (EL a)
theorem j_ {α:Sort _}(a:α):ql a=a:=Classical.choose_spec (EL a)
noncomputable def EX (E:Env) (n:Nat) (c:aF) (st:St):Option (Out × St):=ql (exec E n c st)
noncomputable def CL (E:Env) (n:Nat) (g:Nat) (args:List FV) (B:List ai):bF:=ql (dx E n g args B)
noncomputable def Qg (E:Env) (rec:Nat->List FV->List ai->bF) (ops:List iU) (st:St) (env:List FV):Option (St × List FV):=ql (dJ E rec ops st env)
noncomputable def RK (E:Env) (rec:Nat->List FV->List ai->bF) (draw:Bool) (st:St) (env:List FV) (k:K):Option (FV × St):=ql (runK E rec draw st env k)
noncomputable def qG (op:BinOp) (x y:Value):Option Value:=ql (gm op x y)
noncomputable def av (k:IntKind) (z:Int):Int:=ql (k.wrap z)
theorem qp (E:Env)(n:Nat)(c:aF)(st:St):EX E n c st=exec E n c st:=j_ _
theorem iZ (E:Env)(n g:Nat)(args:List FV)(B:List ai):CL E n g args B=dx E n g args B:=j_ _
theorem zN (E:Env)(rec:Nat->List FV->List ai->bF)(ops:List iU)(st:St)(env:List FV):Qg E rec ops st env=dJ E rec ops st env:=j_ _
theorem bZ (E:Env)(rec:Nat->List FV->List ai->bF)(draw:Bool)(st:St)(env:List FV)(k:K):RK E rec draw st env k=runK E rec draw st env k:=j_ _
theorem eF (op:BinOp)(x y:Value):qG op x y=gm op x y:=j_ _
theorem cB (k:IntKind)(z:Int):av k z=k.wrap z:=j_ _
theorem acZ (E:Env)(n:Nat):CL E n=dx E n:=by funext g args B;exact iZ E n g args B
section
variable {E:Env} {n:Nat} {st:St}
theorem V8:EX E (n+1) .skip st=some (.norm,st):=by rw[qp];rfl
theorem aaj:EX E (n+1) .ret st=some (.ret,st):=by rw[qp];rfl
theorem V9 {id:Nat}:EX E (n+1) (.exit id) st=some (.exit id,st):=by rw[qp];rfl
theorem V_ {js:List Nat}:EX E (n+1) (.kill js) st=some (.norm,{st with vars:=lW st.vars js}):=by rw[qp];rfl
theorem aak {a b : aF} : EX E (n + 1) (.seq a b) st = match EX E n a st with
      | some (.norm, st') => EX E n b st'
      | r => r := by
 simp only[qp];rfl
theorem Wd {x : Arg} {a b : aF} : EX E (n + 1) (.cond x a b) st = match cu E st [] x with
      | some (.d (.v (.bool t))) => EX E n (if t then a else b) st
      | _ => none := by
 simp only[qp];rfl
theorem Qw {id : Nat} {b : aF} : EX E (n + 1) (.block id b) st = match EX E n b st with
      | some (.exit id', st') => if id' = id then some (.norm, st') else some (.exit id', st')
      | r => r := by
 simp only[qp];rfl
theorem aH {b : aF} : EX E (n + 1) (.loop b) st = match EX E n b st with
      | some (.norm, st') => EX E n (.loop b) st'
      | r => r := by
 simp only[qp];rfl
theorem Np {ops:List iU}{outs apart:List (Nat × Nat)}:EX E (n+1) (.region ops outs apart) st =
  if kg st apart then(match Qg E (CL E n) ops st [] with
   | some (st',env)=>some (.norm,{st' with vars:=iP st'.vars env outs})
   | none=>none) else none:=by
 simp only[qp,zN,acZ];rfl
variable {rec:Nat->List FV->List ai->bF} {env:List FV} {draw:Bool}
theorem Qx:Qg E rec [] st env=some (st,env):=by rw[zN];rfl
theorem Nq {o:iU}{rest:List iU}:Qg E rec (o::rest) st env=match kS env o.guard with
  | none=>none
  | some false=>Qg E rec rest st (env++[.d (.t [])])
  | some true=>match RK E rec o.q st env o.k with
   | none=>none
   | some (v,st')=>Qg E rec rest st' (env++[v]):=by
 simp only[zN,bZ];rfl
theorem aal {x:Arg}:RK E rec draw st env (.zy x)=match cu E st env x with
  | some v=>some (v,st)
  | none=>none:=by rw[bZ];rfl
theorem We {c a b:Arg}:RK E rec draw st env (.pick c a b)=match cu E st env c with
  | some (.d (.v (.bool t)))=>match cu E st env (if t then a else b) with
   | some v=>some (v,st)
   | none=>none
  | _=>none:=by rw[bZ];rfl
theorem aam {op:BinOp}{x y:Arg}:RK E rec draw st env (.bin op x y)=match cu E st env x,cu E st env y with
  | some (.d (.v p)),some (.d (.v q))=>match qG op p q with
   | some v=>some (.d (.v v),st)
   | none=>none
  | _,_=>none:=by simp only[bZ,eF];rfl
theorem Wh {k:IntKind}{x:Arg}:RK E rec draw st env (.conv k x)=match cu E st env x with
  | some (.d (.v (.int _ n)))=>some (.d (.v (.int k (av k n))),st)
  | _=>none:=by simp only[bZ,cB];rfl
theorem aan {neg:Bool}{x y:Arg}:RK E rec draw st env (.beq neg x y)=runK E rec draw st env (.beq neg x y):=bZ ..
theorem aao {neg:Bool}{l:Nat}{x y:Arg}:RK E rec draw st env (.Z0 neg l x y)=runK E rec draw st env (.Z0 neg l x y):=bZ ..
theorem Qy {k:Nat}{neg:Bool}{x:Arg}:RK E rec draw st env (.wG k neg x)=runK E rec draw st env (.wG k neg x):=bZ ..
theorem adE {op:UnOp}{x:Arg}:RK E rec draw st env (.un op x)=runK E rec draw st env (.un op x):=bZ ..
theorem aap {x:Arg}:RK E rec draw st env (.box x)=runK E rec draw st env (.box x):=bZ ..
theorem aaq {z:List D}:RK E rec draw st env (.new z)=runK E rec draw st env (.new z):=bZ ..
theorem Wi {agg:Bool}{n:Nat}{p:Arg}:RK E rec draw st env (.load agg n p)=runK E rec draw st env (.load agg n p):=bZ ..
theorem Qz {n:Nat}{p x:Arg}:RK E rec draw st env (.store n p x)=runK E rec draw st env (.store n p x):=bZ ..
theorem QA {off:Nat}{agg:Bool}{n:Nat}{p:Arg}:RK E rec draw st env (.M_ off agg n p)=runK E rec draw st env (.M_ off agg n p):=bZ ..
theorem QB {off:Nat}{agg:Bool}{n:Nat}{p:Arg}:RK E rec draw st env (.field off agg n p)=runK E rec draw st env (.field off agg n p):=bZ ..
theorem QC {sz:Nat}{x i:Arg}:RK E rec draw st env (.Na sz x i)=runK E rec draw st env (.Na sz x i):=bZ ..
theorem QD {len sz:Nat}{agg:Bool}{x i:Arg}:RK E rec draw st env (.Nb len sz agg x i)=runK E rec draw st env (.Nb len sz agg x i):=bZ ..
theorem QE {len sz:Nat}{agg:Bool}{x i:Arg}:RK E rec draw st env (.index len sz agg x i)=runK E rec draw st env (.index len sz agg x i):=bZ ..
theorem QF {z:List D}{ps:List (Nat × Nat × Arg)}:RK E rec draw st env (.build z ps)=runK E rec draw st env (.build z ps):=bZ ..
theorem aar {sz:Nat}{agg:Bool}{z:List D}{len:Nat}{ps:List (Nat × Arg)}:RK E rec draw st env (.lit sz agg z len ps)=runK E rec draw st env (.lit sz agg z len ps):=bZ ..
theorem aas {x:Arg}:RK E rec draw st env (.len x)=runK E rec draw st env (.len x):=bZ ..
theorem Wj {x y:Arg}:RK E rec draw st env (.maxi x y)=runK E rec draw st env (.maxi x y):=bZ ..
theorem Wl {x y:Arg}:RK E rec draw st env (.Y2 x y)=runK E rec draw st env (.Y2 x y):=bZ ..
theorem aat {sz b:Nat}{x y:Arg}:RK E rec draw st env (.app sz b x y)=runK E rec draw st env (.app sz b x y):=bZ ..
theorem QG {sz:Nat}{x:Arg}{lo hi:Option Arg}:RK E rec draw st env (.slice sz x lo hi)=runK E rec draw st env (.slice sz x lo hi):=bZ ..
theorem adF {sz b:Nat}{agg:Bool}{z:List D}{len cap:Arg}:RK E rec draw st env (.mk sz b agg z len cap)=runK E rec draw st env (.mk sz b agg z len cap):=bZ ..
theorem aau {x:Arg}{i:Nat}:RK E rec draw st env (.ext x i)=runK E rec draw st env (.ext x i):=bZ ..
theorem aav {g:Nat}{a b:List Arg}:RK E rec draw st env (.clo g a b)=runK E rec draw st env (.clo g a b):=bZ ..
theorem QI {g:Nat}{args:List Arg}:RK E rec draw st env (.qo g args)=runK E rec draw st env (.qo g args):=bZ ..
theorem aax {x:Arg}:RK E rec draw st env (.cap x)=runK E rec draw st env (.cap x):=bZ ..
theorem Wp {sz b:Nat}{agg:Bool}{z:List D}{x n:Arg}:RK E rec draw st env (.U7 sz b agg z x n)=runK E rec draw st env (.U7 sz b agg z x n):=bZ ..
theorem QL:RK E rec draw st env .Jb=runK E rec draw st env .Jb:=bZ ..
theorem Wn {ok:Bool}{kind:Nat}{z:D}{m k:Arg}:RK E rec draw st env (.U8 ok kind z m k)=runK E rec draw st env (.U8 ok kind z m k):=bZ ..
theorem Wo {kind:Nat}{m k x:Arg}:RK E rec draw st env (.Lh kind m k x)=runK E rec draw st env (.Lh kind m k x):=bZ ..
theorem Dy {x i:Arg}:RK E rec draw st env (.uf x i)=runK E rec draw st env (.uf x i):=bZ ..
theorem Wq {x:Arg}:RK E rec draw st env (.Y1 x)=runK E rec draw st env (.Y1 x):=bZ ..
theorem Ns {x:Arg}{lo hi:Option Arg}:RK E rec draw st env (.FZ x lo hi)=runK E rec draw st env (.FZ x lo hi):=bZ ..
theorem Wm {g:Nat}{args:List Arg}:RK E rec draw st env (.call g args)=runK E rec draw st env (.call g args):=bZ ..
theorem QJ {f:Arg}{args ps:List Arg}:RK E rec draw st env (.ll f args ps)=runK E rec draw st env (.ll f args ps):=bZ ..
theorem QK {agg:Bool}{n:Nat}{p:Arg}:RK E rec draw st env (.jc agg n p)=runK E rec draw st env (.jc agg n p):=bZ ..
theorem I_ {agg:Bool}{n:Nat}{p:Arg}{ps:List Arg}:RK E rec draw st env (.kK agg n p ps)=runK E rec draw st env (.kK agg n p ps):=bZ ..
theorem Nr {n:Nat}{p x:Arg}{ps:List Arg}:RK E rec draw st env (.iI n p x ps)=runK E rec draw st env (.iI n p x ps):=bZ ..
theorem aaw {sz:Nat}{agg:Bool}{z:List D}{x:Arg}:RK E rec draw st env (.clr sz agg z x)=runK E rec draw st env (.clr sz agg z x):=bZ ..
theorem QH {f:Arg}{args:List Arg}:RK E rec draw st env (.mr f args)=runK E rec draw st env (.mr f args):=bZ ..
variable {k k':IntKind} {a b:Int}
theorem adG:qG .add (.int k a) (.int k b)=some (.int k (av k (a+b))):=by rw[eF,cB,af2]
theorem adH:qG .sub (.int k a) (.int k b)=some (.int k (av k (a-b))):=by rw[eF,cB,af3]
theorem adI:qG .mul (.int k a) (.int k b)=some (.int k (av k (a*b))):=by rw[eF,cB,af4]
theorem adJ:qG .quo (.int k a) (.int k b)=if b=0 then none else some (.int k (av k (a.tdiv b))):=by rw[eF,cB,af5]
theorem adK:qG .rem (.int k a) (.int k b)=if b=0 then none else some (.int k (a.tmod b)):=by rw[eF,af6]
theorem agS:qG .or (.int k a) (.int k b)=some (.int k (GA k a b)):=by rw[eF,ahU]
theorem adM:qG .and (.int k a) (.int k b)=some (.int k (Ak k a b)):=by rw[eF,af7]
theorem adN:qG .xor (.int k a) (.int k b)=some (.int k (acY k a b)):=by rw[eF,af8]
theorem adO:qG .shl (.int k a) (.int k' b)=if b<0 then none else some (.int k (JK k a b)):=by rw[eF,af9]
theorem adP:qG .shr (.int k a) (.int k' b)=if b<0 then none else some (.int k (a.fdiv (2 ^ (min b.toNat k.bits)))):=by rw[eF,af_]
theorem adQ:qG .eql (.int k a) (.int k b)=some (.bool (a==b)):=by rw[eF,af']
theorem adR:qG .neq (.int k a) (.int k b)=some (.bool (a != b)):=by rw[eF,aga]
theorem adT:qG .lss (.int k a) (.int k b)=some (.bool (decide (a<b))):=by rw[eF,agb]
theorem adU:qG .leq (.int k a) (.int k b)=some (.bool (decide (a<=b))):=by rw[eF,agc]
theorem adV:qG .gtr (.int k a) (.int k b)=some (.bool (decide (b<a))):=by rw[eF,agd]
theorem adW:qG .geq (.int k a) (.int k b)=some (.bool (decide (b<=a))):=by rw[eF,age]
theorem aB {g:Nat}{F:bI}{args:List FV}{B:List ai}(hp:E.iK g=none)(hf:E.fn g=some F)(hl:args.length=F.np) :
  CL E n g args B=match EX E n F.body {vars:=args++List.replicate (F.nv-F.np) .u,base:=B,loc:=[],aQ:=false} with
    | some (.exit _,_)=>none
    | some (_,st')=>finish F st'
    | none=>none:=by
 rw[iZ,qp,zK hp hf hl];rfl
end
theorem qX {E:Env}{n g:Nat}{p:List FV->List ai->bF}{args:List FV}{B:List ai}(hp:E.iK g=none)(hf:E.fn g=none)(hB:E.iC g=some p) :
  CL E n g args B=match p args B with
    | some (v,some B')=>if B.length<=B'.length then some (v,some B') else none
    | r=>r:=by
 rw[iZ,LW hp hf hB];rfl
theorem bX {E:Env}{n m g:Nat}{args:List FV}{B:List ai}{x:FV × Option (List ai)}(hx:CL E n g args B=some x)(hm:n<=m):CL E m g args B=some x:=by
 rw[iZ]at hx ⊢;exact xB hx hm
theorem Ca.bO {E:Env}{n g:Nat}{args:List FV}{r:FV × Option (List ai)}(h:CL E n g args []=some r):Ca E g args r:=Ca.of (by rw[<-iZ];exact h)
theorem Ca.get {E:Env}{g:Nat}{args:List FV}{r:FV × Option (List ai)}(h:Ca E g args r):∃ n0,∀ k,CL E (n0+k) g args []=some r:=by
 obtain⟨n0,h⟩:=h;exact⟨n0,fun k=>by rw[iZ];exact h _ ae⟩
theorem Ca.any {E:Env}{g:Nat}{args:List FV}{r:FV × Option (List ai)}(h:Ca E g args r):∃ n0,∀ n,n0<=n->∀ k,CL E (n+k) g args []=some r:=by
 obtain⟨n0,h⟩:=h;exact⟨n0,fun n hn k=>by rw[iZ];exact h _ ae⟩
def Any (P:Nat->Prop):Prop:=∃ n0,∀ n,n0<=n->P n
theorem Ca.j {E:Env}{g:Nat}{args:List FV}{r:FV × Option (List ai)}{Q:Nat->Prop}(h:Ca E g args r)(q:Any Q):Any fun n=>(∀ k,CL E (n+k) g args []=some r)/\Q n:=by
 obtain⟨a,h⟩:=h.any;obtain⟨b,q⟩:=q;exact⟨a+b,fun n hn=>⟨h n ae,q n ae⟩⟩
theorem Any.at {P:Nat->Prop}(h:Any P)(c:Nat):∃ K,c<=K/\P K:=by
 obtain⟨a,h⟩:=h;exact⟨a+c,ae,h _ ae⟩
end
section
def aF.l:aF->aF
 | .seq a _=>a
 | _=>.skip
def aF.r:aF->aF
 | .seq _ b=>b
 | _=>.skip
def aF.bl:aF->aF
 | .block _ b=>b
 | _=>.skip
def aF.lp:aF->aF
 | .loop b=>b
 | _=>.skip
def Ex (E:Env)(c:aF)(st:St)(r:Out × St):Prop:=∃ n0,∀ n,n0<=n->exec E n c st=some r
section
variable {E:Env} {st st1 st2:St}
theorem Ex.of {n:Nat}{c:aF}{r:Out × St}(h:EX E n c st=some r):Ex E c st r:=⟨n,fun _ hm=>EJ (by rw[<-qp];exact h) hm⟩
theorem Ex.next {b:aF}{r:Out × St}(h1:Ex E b st (.norm,st1))(h2:Ex E (.loop b) st1 r):Ex E (.loop b) st r:=by
 obtain⟨n1,h1⟩:=h1;obtain⟨n2,h2⟩:=h2;refine⟨n1+n2+1,fun n hn => ?_⟩;obtain⟨m,rfl⟩:∃ m,n=m+1:=⟨n-1,ae⟩
 rw[sW,h1 m ae];exact h2 m ae
theorem Ex.out {b:aF}{o:Out}(h1:Ex E b st (o,st1))(ho:o≠.norm):Ex E (.loop b) st (o,st1):=by
 obtain⟨n1,h1⟩:=h1;refine⟨n1+1,fun n hn => ?_⟩;obtain⟨m,rfl⟩:∃ m,n=m+1:=⟨n-1,ae⟩
 rw[sW,h1 m ae];cases o with
 | norm=>exact absurd rfl ho
 | exit id=>rfl
 | ret=>rfl
theorem Ex.leave {b:aF}{r:Out × St}(h1:Ex E b st r)(ho:r.1≠.norm):Ex E (.loop b) st r:=Ex.out (o:=r.1) (st1:=r.2) h1 ho
theorem Ex.while {α:Type}{b:aF}(S:α->St)(μ:α->Nat)(R:α->Out × St)
  (step:∀ a,(∃ a',Ex E b (S a) (.norm,S a')/\μ a'<μ a/\R a'=R a)\/(Ex E b (S a) (R a)/\(R a).1≠.norm)) :
  ∀ a,Ex E (.loop b) (S a) (R a):=by
 intro a
 induction h:μ a using Nat.strongRecOn generalizing a with
 | ind k ih =>
  rcases step a with ⟨a',h1,h2,h3⟩|⟨h1,h2⟩
  ·have:=ih (μ a') ae a' rfl;rw[h3]at this;exact h1.next this
  ·exact h1.out h2
theorem Ex.inv {α:Type}{b:aF}(S:α->St)(μ:α->Nat)(I:α->Prop)(Q:Out × St->Prop)
  (step:∀ a,I a->(∃ a',Ex E b (S a) (.norm,S a')/\μ a'<μ a/\I a')\/(∃ r,Ex E b (S a) r/\r.1≠.norm/\Q r)) :
  ∀ a,I a->∃ r,Ex E (.loop b) (S a) r/\Q r:=by
 intro a ha
 induction h:μ a using Nat.strongRecOn generalizing a with
 | ind k ih =>
  rcases step a ha with ⟨a',h1,h2,h3⟩|⟨r,h1,h2,h3⟩
  ·obtain⟨r,h4,h5⟩:=ih (μ a') ae a' h3 rfl;exact⟨r,h1.next h4,h5⟩
  ·exact⟨r,h1.leave h2,h3⟩
theorem Ex.seq {a b:aF}{r:Out × St}(h1:Ex E a st (.norm,st1))(h2:Ex E b st1 r):Ex E (.seq a b) st r:=by
 obtain⟨n1,h1⟩:=h1;obtain⟨n2,h2⟩:=h2;refine⟨n1+n2+1,fun n hn => ?_⟩;obtain⟨m,rfl⟩:∃ m,n=m+1:=⟨n-1,ae⟩
 rw[wU,h1 m ae];exact h2 m ae
theorem Ex.block {id:Nat}{b:aF}(h1:Ex E b st (.exit id,st1)):Ex E (.block id b) st (.norm,st1):=by
 obtain⟨n1,h1⟩:=h1;refine⟨n1+1,fun n hn => ?_⟩;obtain⟨m,rfl⟩:∃ m,n=m+1:=⟨n-1,ae⟩
 rw[mJ,h1 m ae];simp
theorem Ex.fF {id:Nat}{b:aF}(h1:Ex E b st (.norm,st1)):Ex E (.block id b) st (.norm,st1):=by
 obtain⟨n1,h1⟩:=h1;refine⟨n1+1,fun n hn => ?_⟩;obtain⟨m,rfl⟩:∃ m,n=m+1:=⟨n-1,ae⟩
 rw[mJ,h1 m ae]
theorem Ex.bG {id:Nat}{b:aF}(h1:Ex E b st (.ret,st1)):Ex E (.block id b) st (.ret,st1):=by
 obtain⟨n1,h1⟩:=h1;refine⟨n1+1,fun n hn => ?_⟩;obtain⟨m,rfl⟩:∃ m,n=m+1:=⟨n-1,ae⟩
 rw[mJ,h1 m ae]
theorem Ex.bN {a b:aF}(h1:Ex E a st (.ret,st1)):Ex E (.seq a b) st (.ret,st1):=by
 obtain⟨n1,h1⟩:=h1;refine⟨n1+1,fun n hn => ?_⟩;obtain⟨m,rfl⟩:∃ m,n=m+1:=⟨n-1,ae⟩
 rw[wU,h1 m ae]
theorem Ca.body {g:Nat}{F:bI}{args:List FV}{o:Out}{r:FV × Option (List ai)}(hp:E.iK g=none)(hf:E.fn g=some F)(hl:args.length=F.np)
  (h:Ex E F.body {vars:=args++List.replicate (F.nv-F.np) .u,base:=[],loc:=[],aQ:=false} (o,st1)) (ho:∀ id,o≠.exit id) (hr:finish F st1=some r):Ca E g args r:=by
 obtain⟨n0,h⟩:=h;refine⟨n0,fun n hn => ?_⟩;rw[zK hp hf hl,h n hn];cases o with
 | exit id=>exact absurd rfl (ho id)
 | norm=>exact hr
 | ret=>exact hr
end
end
def LL (l:List Nat):List D:=l.map fun(x:Nat)=>D.v (.int .u32 (x:Int))
def LD (l:List Nat):D:=.s 1 (LL l)
def bC (l:List Nat)(i:Nat):Nat:=(l[i]?).getD 0
def val:List Nat->Nat
 | []=>0
 | x::r=>x+4294967296*val r
def bP (l:List Nat):Prop:=∀ x ∈ l,x<4294967296
theorem wrap_u64 {z:Int}(h:0<=z/\z<18446744073709551616):av .u64 z=z:=by
 rw[cB];simp only[IntKind.wrap,IntKind.bits,IntKind.signed];simp;omega
theorem wrap_i64 {z:Int}(h:-9223372036854775808<=z/\z<9223372036854775808):av .i64 z=z:=by
 rw[cB];simp only[IntKind.wrap,IntKind.bits,IntKind.signed];simp;split<;>omega
theorem wrap_u32 {z:Int}(h:0<=z/\z<4294967296):av .u32 z=z:=by
 rw[cB];simp only[IntKind.wrap,IntKind.bits,IntKind.signed];simp;omega
theorem dA (z:Int):av .u32 z=z % 4294967296:=by
 rw[cB];simp only[IntKind.wrap,IntKind.bits,IntKind.signed];simp
theorem fE (z:Int):av .u64 z=z % 18446744073709551616:=by
 rw[cB];simp only[IntKind.wrap,IntKind.bits,IntKind.signed];simp
theorem idx {α:Type}{es:List α}{k:Nat}{v:α}(h:es[k]?=some v)(h2:k<es.length):es[k]=v:=by
 rw[Qa1 h2]at h;exact Qz2 h
def trim:List Nat->List Nat
 | []=>[]
 | x::r=>if trim r=[]/\x=0 then [] else x::trim r
theorem rT:∀ (a:List Nat),trim (a++[0])=trim a
 | []=>by simp[trim]
 | x::r=>by
  rw[Q30,trim,trim,rT r]
theorem rR:∀ (a:List Nat) (x:Nat),x≠0->trim (a++[x])=a++[x]
 | [],x,h=>by simp[trim,h]
 | y::r,x,h=>by
  rw[Q30,trim,rR r x h];simp
theorem Ju:∀ (a:List Nat),val (trim a)=val a
 | []=>rfl
 | x::r=>by
  have ih:=Ju r;rw[trim];split
  ·rename_i h;rw[h.1]at ih;simp only[val]at ih ⊢;omega
  ·simp only[val];rw[ih]
theorem Jv:∀ {a:List Nat},bP a->bP (trim a)
 | [],h=>h
 | x::r,h=>by
  have ih:bP (trim r):=Jv (fun y hy=>h y (Qf1 _ hy));rw[trim];split
  ·intro y hy;cases hy
  ·intro y hy;rcases Qg1.1 hy with rfl|hy
   ·exact h _ (Qi0 ..)
   ·exact ih y hy
theorem qL:∀ (a:List Nat),(trim a).length<=a.length
 | []=>Qd1 _
 | x::r=>by
  have:=qL r;rw[trim];split<;>simp<;>omega
theorem EM:∀ (a:List Nat),trim (trim a)=trim a
 | []=>rfl
 | x::r=>by
  have ih:=EM r;rw[trim];split
  ·rfl
  ·rename_i h;rw[trim,ih];rw[if_neg h]
theorem val_inj:∀ {a b:List Nat},bP a->bP b->trim a=a->trim b=b->val a=val b->a=b
 | [],[],_,_,_,_,_=>rfl
 | [],y::s,_,hb,_,tb,h=>by
  exfalso;have hv:val (y::s)=0:=h.symm;simp only[val]at hv;have h0:y=0/\val s=0:=ae;have hs:bP s:=fun z hz=>hb z (Qf1 _ hz)
  rw[trim]at tb;split at tb
  ·cases tb
  ·rename_i hn;simp only[Xg2,true_and]at tb;have:=val_inj (a:=[]) (b:=s) (fun _ h=>by cases h) hs rfl tb (by simp[val,h0.2]);subst this;exact hn ⟨rfl,h0.1⟩
 | x::r,[],ha,_,ta,_,h=>by
  exfalso;have hv:val (x::r)=0:=h;simp only[val]at hv;have h0:x=0/\val r=0:=ae;have hr:bP r:=fun z hz=>ha z (Qf1 _ hz)
  rw[trim]at ta;split at ta
  ·cases ta
  ·rename_i hn;simp only[Xg2,true_and]at ta;have:=val_inj (a:=r) (b:=[]) hr (fun _ h=>by cases h) ta rfl (by simp[val,h0.2]);subst this;exact hn ⟨rfl,h0.1⟩
 | x::r,y::s,ha,hb,ta,tb,h=>by
  simp only[val]at h;have hx:=ha x (Qi0 ..);have hy:=hb y (Qi0 ..);have h0:x=y/\val r=val s:=ae;have hr:bP r:=fun z hz=>ha z (Qf1 _ hz)
  have hs:bP s:=fun z hz=>hb z (Qf1 _ hz)
  have tr:trim r=r:=by
   rw[trim]at ta;split at ta
   ·cases ta
   ·simpa using ta
  have ts:trim s=s:=by
   rw[trim]at tb;split at tb
   ·cases tb
   ·simpa using tb
  rw[h0.1,val_inj hr hs tr ts h0.2]
def enc (n:Nat):List Nat:=if n=0 then [] else n % 4294967296::enc (n / 4294967296)
termination_by n
theorem aV (n:Nat):val (enc n)=n:=by
 induction n using Nat.strongRecOn with
 | ind n ih =>
  rw[enc];split
  ·subst_vars;rfl
  ·rename_i h;simp only[val];rw[ih _ ae];omega
theorem aU (n:Nat):bP (enc n):=by
 induction n using Nat.strongRecOn with
 | ind n ih =>
  rw[enc];split
  ·intro x hx;cases hx
  ·intro x hx;rcases Qg1.1 hx with rfl|hx
   ·exact Qu0 _ ae
   ·exact ih _ ae x hx
theorem dO {n:Nat}:enc n=[]↔n=0:=by
 rw[enc];split<;>simp[*]
theorem GV (n:Nat):trim (enc n)=enc n:=by
 induction n using Nat.strongRecOn with
 | ind n ih =>
  rw[enc];split
  ·rfl
  ·rename_i h;rw[trim,ih _ ae,if_neg];rintro⟨h1,h2⟩;rw[dO]at h1;omega
theorem b_ {a:List Nat}(h:bP a):trim a=enc (val a) :=
 val_inj (Jv h) (aU _) (EM a) (GV _) (by rw[Ju,aV])
theorem iJ (l:List Nat)(k:Nat):val (l.drop k)=bC l k+4294967296*val (l.drop (k+1)):=by
 unfold bC
 by_cases h:k<l.length
 ·rw[Qi2 h,Qa1 h];simp[val]
 ·rw[Xn0 ae,Xn0 ae,Qq2 ae];simp[val]
theorem val_append:∀ (o:List Nat) (d:List Nat),val (o++d)=val o+4294967296 ^ o.length*val d
 | [],d=>by simp[val]
 | x::r,d=>by
  rw[Q30,val,val,val_append r d,Qf2,Qn1];grind
theorem gU {l:List Nat}{k:Nat}(h:l.length<=k):val (l.drop k)=0:=by
 rw[Xn0 h];rfl
theorem nH:∀ {l:List Nat},bP l->val l<4294967296 ^ l.length
 | [],_=>by simp[val]
 | x::r,h=>by
  have h1:=nH (l:=r) (fun y hy=>h y (Qf1 _ hy));have h2:=h x (Qi0 ..);rw[val,Qf2,Qn1];generalize 4294967296 ^ r.length=p at*;omega
theorem gT {a b:List Nat}(ha:bP a)(hb:bP b):bP (a++b):=by
 intro x hx;rcases Qw2.1 hx with h|h
 ·exact ha x h
 ·exact hb x h
def bW (l:List Nat)(k:Nat):Nat:=val (l.take k)
theorem dS (l:List Nat)(k:Nat):bW l (k+1)=bW l k+4294967296 ^ k*bC l k:=by
 unfold bW bC
 by_cases h:k<l.length
 ·rw[Qi1 h,val_append,Ql2,X10 ae,Qa1 h];simp[val]
 ·rw[Qe0 ae,Qe0 ae,Qq2 ae];simp
theorem nP {l:List Nat}(h:bP l)(k:Nat):bW l k<4294967296 ^ k:=by
 have h1:bP (l.take k):=fun x hx=>h x (Qs2 hx)
 refine Ql1 (nH h1) (Qu2 ae ?_);simp only[Ql2];omega
theorem eU {l:List Nat}{k:Nat}(h:l.length<=k):bW l k=val l:=by unfold bW;rw[Qe0 h]
theorem jk {va vb P x y:Nat}(h1:va<P)(h:x<y):va+P*x<vb+P*y:=by
 have:P*x+P<=P*y:=by rw[<-Nat.mul_succ];exact Xa2 _ h
 omega
def row0 (o:List Nat)(m:Nat):List Nat:=o++List.replicate m 0
theorem LZ (o:List Nat)(m:Nat):(LL (row0 o (m+1)))[o.length]?=some (.v (.int .u32 0)):=by
 simp[LL,row0,Qb1]
theorem Gz (o:List Nat)(m v:Nat):(LL (row0 o (m+1))).set o.length (.v (.int .u32 (v:Int)))=LL (row0 (o++[v]) m):=by
 simp[LL,row0,Qv2,Q60]
theorem qI (o:List Nat)(m:Nat):(LL (row0 o m)).length=o.length+m:=by simp[LL,row0]
theorem u7 (m:Nat):LL (row0 [] m)=List.replicate m (.v (.int .u32 0)):=by simp[LL,row0]
theorem DF (o:List Nat):row0 o 0=o:=by simp[row0]
theorem bH {m n:Nat}(h:m<=n):(enc m).length<=(enc n).length:=by
 induction n using Nat.strongRecOn generalizing m with
 | ind n ih =>
  rw[enc];split
  ·simp
  ·rename_i h0
   conv=>rhs;rw[enc]
   rw[if_neg ae];simp only[Qf2];have:=@ih (n / 4294967296) ae (m / 4294967296) ae;omega
abbrev vI (n : Int) : D := .v (.int .i64 n)
abbrev vB (b : Bool) : D := .v (.bool b)
abbrev dI (n : Int) : FV := .d (.v (.int .i64 n))
abbrev dB (b : Bool) : FV := .d (.v (.bool b))
abbrev rL (i : Nat) : FV := .r (.loc i) 0
theorem nx {E : Env} {c : aF} {s t : St} (_ : Ex E c s (.norm, t)) (d : aF) (u : St) (h : Ex E d t (.norm, u)) : Ex E d t (.norm, u) := h
theorem e6 {E : Env} {c : aF} {s : St} {r : Out × St} (h : EX E 60 c s = some r) : Ex E c s r := Ex.of h
theorem wI {x : Int} (h : -9223372036854775808 <= x /\ x < 9223372036854775808 := by omega) : av .i64 x = x := wrap_i64 h
abbrev DI : List FV := [.u,.u,.u]
abbrev mO : List FV := [.u,.u,.u,.u]
abbrev iO : List FV := [.u,.u,.u,.u,.u]
abbrev qm : List FV := [.u,.u,.u,.u,.u,.u]
abbrev nO : List FV := [.u,.u,.u,.u,.u,.u,.u]
abbrev zf : List FV := [.u,.u,.u,.u,.u,.u,.u,.u]
abbrev CK : List FV := [.u,.u,.u,.u,.u,.u,.u,.u,.u]
abbrev oD : List FV := [.u,.u,.u,.u,.u,.u,.u,.u,.u,.u]
abbrev Gt : List FV := [.u,.u,.u,.u,.u,.u,.u,.u,.u,.u,.u]
abbrev Nn : List FV := [.u,.u,.u,.u,.u,.u,.u,.u,.u,.u,.u,.u]
abbrev Gu : List FV := [.u,.u,.u,.u,.u,.u,.u,.u,.u,.u,.u,.u,.u]
abbrev JE : List FV := [.u,.u,.u,.u,.u,.u,.u,.u,.u,.u,.u,.u,.u,.u]
abbrev aai : List FV := [.u,.u,.u,.u,.u,.u,.u,.u,.u,.u,.u,.u,.u,.u,.u]
abbrev adD : List FV := [.u,.u,.u,.u,.u,.u,.u,.u,.u,.u,.u,.u,.u,.u,.u,.u,.u]

end Fi
