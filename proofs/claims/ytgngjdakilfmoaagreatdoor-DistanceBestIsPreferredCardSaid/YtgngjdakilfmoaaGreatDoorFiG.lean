import Derived.Test.YtgngjdakilfmoaaGreatDoorFiE
set_option linter.unusedVariables false
set_option linter.unusedSimpArgs false
namespace Fi
open Go
def Vm:IntKind->IntKind->Bool
 | .i8,.i8 | .i16,.i16 | .i32,.i32 | .i64,.i64 | .u8,.u8 | .u16,.u16 | .u32,.u32 | .u64,.u64=>true
 | _,_=>false
theorem YJ {a b:IntKind}(h:Vm a b=true):a=b:=by cases a<;>cases b<;>first|rfl|cases h
def JR:Int->Int->Bool
 | .ofNat a,.ofNat b=>Nat.beq a b
 | .negSucc a,.negSucc b=>Nat.beq a b
 | _,_=>false
theorem YK {a b:Int}(h:JR a b=true):a=b:=by
 cases a<;>cases b<;>simp only[JR]at h<;>first|(cases h;done)|(rw[Ql0 h])
def JU:Value->Value->Bool
 | .int k a,.int k' b=>Vm k k'&&JR a b
 | .bool a,.bool b=>a==b
 | _,_=>false
theorem YL {a b:Value}(h:JU a b=true):a=b:=by
 unfold JU at h;split at h
 ·simp only[Qd0]at h;rw[YJ h.1,YK h.2]
 ·rw[eq_of_beq h]
 ·cases h
mutual
def kH:D->D->Bool
 | .v x,.v y=>JU x y
 | .fn a,.fn b=>Nat.beq a b
 | .n a,.n b=>Nat.beq a b
 | .i,.i=>true
 | .s a xs,.s b ys=>Nat.beq a b&&mq xs ys
 | .a xs,.a ys=>mq xs ys
 | .t xs,.t ys=>mq xs ys
 | _,_=>false
def mq:List D->List D->Bool
 | [],[]=>true
 | x::xs,y::ys=>kH x y&&mq xs ys
 | _,_=>false
end
mutual
theorem pO:∀ {x y:D},kH x y=true->x=y
 | .v x,y,h=>by
  cases y<;>simp only[kH]at h<;>first|(cases h;done)|(rw[YL h])
 | .fn a,y,h=>by
  cases y<;>simp only[kH]at h<;>first|(cases h;done)|(rw[Ql0 h])
 | .n a,y,h=>by
  cases y<;>simp only[kH]at h<;>first|(cases h;done)|(rw[Ql0 h])
 | .i,y,h=>by
  cases y<;>simp only[kH]at h<;>first|(cases h;done)|rfl
 | .s a xs,y,h=>by
  cases y<;>simp only[kH]at h<;>first|(cases h;done)|skip
  simp only[Qd0]at h;rw[Ql0 h.1,yF h.2]
 | .a xs,y,h=>by
  cases y<;>simp only[kH]at h<;>first|(cases h;done)|(rw[yF h])
 | .t xs,y,h=>by
  cases y<;>simp only[kH]at h<;>first|(cases h;done)|(rw[yF h])
theorem yF:∀ {xs ys:List D},mq xs ys=true->xs=ys
 | [],ys,h=>by
  cases ys with
  | nil=>rfl
  | cons _ _=>simp only[mq]at h;cases h
 | x::xs,ys,h=>by
  cases ys with
  | nil=>simp only[mq]at h;cases h
  | cons y ys =>
   simp only[mq,Qd0]at h;rw[pO h.1,yF h.2]
end
def ai6 (r:bJ)(x:D):Bool:=match r with
 | some (.d y,none)=>kH y x
 | _=>false
theorem aaN {r:bJ}{x:D}(h:ai6 r x=true):r=some (.d x,none):=by
 unfold ai6 at h;split at h
 ·rw[pO h]
 ·cases h
theorem ady {n:Nat}{f:Nat->Bool}(h:(List.range n).all f=true){i:Nat}(hi:i<n):f i=true:=Qh2.1 h i (Xw0.2 hi)
section
theorem GR {α:Sort _}(a:α):∃ z,z=a:=⟨a,rfl⟩
noncomputable def rG {α:Sort _} (a:α):α:=Classical.choose (GR a)
theorem ll {α:Sort _}(a:α):rG a=a:=Classical.choose_spec (GR a)
noncomputable def EX (E:Env) (n:Nat) (c:aF) (st:St):Option (Out × St):=rG (exec E n c st)
noncomputable def CL (E:Env) (n:Nat) (g:Nat) (args:List FV) (B:List ah):bJ:=rG (cz E n g args B)
noncomputable def Tq (E:Env) (rec:Nat->List FV->List ah->bJ) (ops:List jE) (st:St) (env:List FV):Option (St × List FV):=rG (eu E rec ops st env)
noncomputable def RK (E:Env) (rec:Nat->List FV->List ah->bJ) (draw:Bool) (st:St) (env:List FV) (k:K):Option (FV × St):=rG (runK E rec draw st env k)
noncomputable def rW (op:BinOp) (x y:Value):Option Value:=rG (iB op x y)
noncomputable def ak (k:IntKind) (z:Int):Int:=rG (k.wrap z)
theorem rM (E:Env)(n:Nat)(c:aF)(st:St):EX E n c st=exec E n c st:=ll _
theorem jS (E:Env)(n g:Nat)(args:List FV)(B:List ah):CL E n g args B=cz E n g args B:=ll _
theorem BG (E:Env)(rec:Nat->List FV->List ah->bJ)(ops:List jE)(st:St)(env:List FV):Tq E rec ops st env=eu E rec ops st env:=ll _
theorem df (E:Env)(rec:Nat->List FV->List ah->bJ)(draw:Bool)(st:St)(env:List FV)(k:K):RK E rec draw st env k=runK E rec draw st env k:=ll _
theorem fT (op:BinOp)(x y:Value):rW op x y=iB op x y:=ll _
theorem cZ (k:IntKind)(z:Int):ak k z=k.wrap z:=ll _
theorem afL (E:Env)(n:Nat):CL E n=cz E n:=by funext g args B;exact jS E n g args B
section
variable {E:Env} {n:Nat} {st:St}
theorem Zf:EX E (n+1) .skip st=some (.norm,st):=by rw[rM];rfl
theorem ac7:EX E (n+1) .ret st=some (.ret,st):=by rw[rM];rfl
theorem Zg {id:Nat}:EX E (n+1) (.exit id) st=some (.exit id,st):=by rw[rM];rfl
theorem Zh {js:List Nat}:EX E (n+1) (.kill js) st=some (.norm,{st with vars:=mZ st.vars js}):=by rw[rM];rfl
theorem ac8 {a b : aF} : EX E (n + 1) (.seq a b) st = match EX E n a st with
      | some (.norm, st') => EX E n b st'
      | r => r := by
 simp only[rM];rfl
theorem Zi {x : Arg} {a b : aF} : EX E (n + 1) (.cond x a b) st = match dw E st [] x with
      | some (.d (.v (.bool t))) => EX E n (if t then a else b) st
      | _ => none := by
 simp only[rM];rfl
theorem TT {id : Nat} {b : aF} : EX E (n + 1) (.block id b) st = match EX E n b st with
      | some (.exit id', st') => if id' = id then some (.norm, st') else some (.exit id', st')
      | r => r := by
 simp only[rM];rfl
theorem aD {b : aF} : EX E (n + 1) (.loop b) st = match EX E n b st with
      | some (.norm, st') => EX E n (.loop b) st'
      | r => r := by
 simp only[rM];rfl
theorem Qn {ops:List jE}{outs apart:List (Nat × Nat)}:EX E (n+1) (.region ops outs apart) st =
  if lD st apart then(match Tq E (CL E n) ops st [] with
   | some (st',env)=>some (.norm,{st' with vars:=jC st'.vars env outs})
   | none=>none) else none:=by
 simp only[rM,BG,afL];rfl
variable {rec:Nat->List FV->List ah->bJ} {env:List FV} {draw:Bool}
theorem TU:Tq E rec [] st env=some (st,env):=by rw[BG];rfl
theorem Qo {o:jE}{rest:List jE}:Tq E rec (o::rest) st env=match mh env o.guard with
  | none=>none
  | some false=>Tq E rec rest st (env++[.d (.t [])])
  | some true=>match RK E rec o.q st env o.k with
   | none=>none
   | some (v,st')=>Tq E rec rest st' (env++[v]):=by
 simp only[BG,df];rfl
theorem ac9 {x:Arg}:RK E rec draw st env (.Bh x)=match dw E st env x with
  | some v=>some (v,st)
  | none=>none:=by rw[df];rfl
theorem Zj {c a b:Arg}:RK E rec draw st env (.pick c a b)=match dw E st env c with
  | some (.d (.v (.bool t)))=>match dw E st env (if t then a else b) with
   | some v=>some (v,st)
   | none=>none
  | _=>none:=by rw[df];rfl
theorem ac_ {op:BinOp}{x y:Arg}:RK E rec draw st env (.bin op x y)=match dw E st env x,dw E st env y with
  | some (.d (.v p)),some (.d (.v q))=>match rW op p q with
   | some v=>some (.d (.v v),st)
   | none=>none
  | _,_=>none:=by simp only[df,fT];rfl
theorem Zk {k:IntKind}{x:Arg}:RK E rec draw st env (.conv k x)=match dw E st env x with
  | some (.d (.v (.int _ n)))=>some (.d (.v (.int k (ak k n))),st)
  | _=>none:=by simp only[df,cZ];rfl
theorem ac' {neg:Bool}{x y:Arg}:RK E rec draw st env (.beq neg x y)=runK E rec draw st env (.beq neg x y):=df ..
theorem ada {neg:Bool}{l:Nat}{x y:Arg}:RK E rec draw st env (.aeq neg l x y)=runK E rec draw st env (.aeq neg l x y):=df ..
theorem TV {k:Nat}{neg:Bool}{x:Arg}:RK E rec draw st env (.x_ k neg x)=runK E rec draw st env (.x_ k neg x):=df ..
theorem agt {op:UnOp}{x:Arg}:RK E rec draw st env (.un op x)=runK E rec draw st env (.un op x):=df ..
theorem adb {x:Arg}:RK E rec draw st env (.box x)=runK E rec draw st env (.box x):=df ..
theorem ade {z:List D}:RK E rec draw st env (.new z)=runK E rec draw st env (.new z):=df ..
theorem Zl {agg:Bool}{n:Nat}{p:Arg}:RK E rec draw st env (.load agg n p)=runK E rec draw st env (.load agg n p):=df ..
theorem TW {n:Nat}{p x:Arg}:RK E rec draw st env (.store n p x)=runK E rec draw st env (.store n p x):=df ..
theorem TY {off:Nat}{agg:Bool}{n:Nat}{p:Arg}:RK E rec draw st env (.Lf off agg n p)=runK E rec draw st env (.Lf off agg n p):=df ..
theorem TZ {off:Nat}{agg:Bool}{n:Nat}{p:Arg}:RK E rec draw st env (.field off agg n p)=runK E rec draw st env (.field off agg n p):=df ..
theorem T9 {sz:Nat}{x i:Arg}:RK E rec draw st env (.Qd sz x i)=runK E rec draw st env (.Qd sz x i):=df ..
theorem T_ {len sz:Nat}{agg:Bool}{x i:Arg}:RK E rec draw st env (.Qe len sz agg x i)=runK E rec draw st env (.Qe len sz agg x i):=df ..
theorem Ua {len sz:Nat}{agg:Bool}{x i:Arg}:RK E rec draw st env (.index len sz agg x i)=runK E rec draw st env (.index len sz agg x i):=df ..
theorem Ub {z:List D}{ps:List (Nat × Nat × Arg)}:RK E rec draw st env (.build z ps)=runK E rec draw st env (.build z ps):=df ..
theorem adf {sz:Nat}{agg:Bool}{z:List D}{len:Nat}{ps:List (Nat × Arg)}:RK E rec draw st env (.lit sz agg z len ps)=runK E rec draw st env (.lit sz agg z len ps):=df ..
theorem ajw {sz:Nat}{agg:Bool}{z:List D}{len:Nat}{ps:List (Nat × Arg)}:RK E rec draw st env (.Yc sz agg z len ps)=runK E rec draw st env (.Yc sz agg z len ps):=df ..
theorem adg {x:Arg}:RK E rec draw st env (.len x)=runK E rec draw st env (.len x):=df ..
theorem Zm {x y:Arg}:RK E rec draw st env (.maxi x y)=runK E rec draw st env (.maxi x y):=df ..
theorem Zn {x y:Arg}:RK E rec draw st env (.abT x y)=runK E rec draw st env (.abT x y):=df ..
theorem adh {sz b:Nat}{x y:Arg}:RK E rec draw st env (.app sz b x y)=runK E rec draw st env (.app sz b x y):=df ..
theorem Uc {sz:Nat}{x:Arg}{lo hi:Option Arg}:RK E rec draw st env (.slice sz x lo hi)=runK E rec draw st env (.slice sz x lo hi):=df ..
theorem agu {sz b:Nat}{agg:Bool}{z:List D}{len cap:Arg}:RK E rec draw st env (.mk sz b agg z len cap)=runK E rec draw st env (.mk sz b agg z len cap):=df ..
theorem adi {x:Arg}{i:Nat}:RK E rec draw st env (.ext x i)=runK E rec draw st env (.ext x i):=df ..
theorem adj {g:Nat}{a b:List Arg}:RK E rec draw st env (.clo g a b)=runK E rec draw st env (.clo g a b):=df ..
theorem Ue {g:Nat}{args:List Arg}:RK E rec draw st env (.rJ g args)=runK E rec draw st env (.rJ g args):=df ..
theorem adl {x:Arg}:RK E rec draw st env (.cap x)=runK E rec draw st env (.cap x):=df ..
theorem Zr {sz b:Nat}{agg:Bool}{z:List D}{x n:Arg}:RK E rec draw st env (.Yd sz b agg z x n)=runK E rec draw st env (.Yd sz b agg z x n):=df ..
theorem Uh:RK E rec draw st env .Lg=runK E rec draw st env .Lg:=df ..
theorem Zp {ok:Bool}{kind:Nat}{z:D}{m k:Arg}:RK E rec draw st env (.Ye ok kind z m k)=runK E rec draw st env (.Ye ok kind z m k):=df ..
theorem Zq {kind:Nat}{m k x:Arg}:RK E rec draw st env (.Oh kind m k x)=runK E rec draw st env (.Oh kind m k x):=df ..
theorem Fy {x i:Arg}:RK E rec draw st env (.vO x i)=runK E rec draw st env (.vO x i):=df ..
theorem Zt {x:Arg}:RK E rec draw st env (.abS x)=runK E rec draw st env (.abS x):=df ..
theorem Qq {x:Arg}{lo hi:Option Arg}:RK E rec draw st env (.IJ x lo hi)=runK E rec draw st env (.IJ x lo hi):=df ..
theorem Zo {g:Nat}{args:List Arg}:RK E rec draw st env (.call g args)=runK E rec draw st env (.call g args):=df ..
theorem Uf {f:Arg}{args ps:List Arg}:RK E rec draw st env (.mF f args ps)=runK E rec draw st env (.mF f args ps):=df ..
theorem Ug {agg:Bool}{n:Nat}{p:Arg}:RK E rec draw st env (.jL agg n p)=runK E rec draw st env (.jL agg n p):=df ..
theorem af7 {agg:Bool}{n:Nat}{p:Arg}{ps:List Arg}:RK E rec draw st env (.nO agg n p ps)=runK E rec draw st env (.nO agg n p ps):=df ..
theorem Qp {n:Nat}{p x:Arg}{ps:List Arg}:RK E rec draw st env (.jl n p x ps)=runK E rec draw st env (.jl n p x ps):=df ..
theorem adk {sz:Nat}{agg:Bool}{z:List D}{x:Arg}:RK E rec draw st env (.clr sz agg z x)=runK E rec draw st env (.clr sz agg z x):=df ..
theorem Ud {f:Arg}{args:List Arg}:RK E rec draw st env (.mE f args)=runK E rec draw st env (.mE f args):=df ..
variable {k k':IntKind} {a b:Int}
theorem agv:rW .add (.int k a) (.int k b)=some (.int k (ak k (a+b))):=by rw[fT,cZ,aiR]
theorem agw:rW .sub (.int k a) (.int k b)=some (.int k (ak k (a-b))):=by rw[fT,cZ,aiS]
theorem agx:rW .mul (.int k a) (.int k b)=some (.int k (ak k (a*b))):=by rw[fT,cZ,aiT]
theorem agy:rW .quo (.int k a) (.int k b)=if b=0 then none else some (.int k (ak k (a.tdiv b))):=by rw[fT,cZ,aiU]
theorem agz:rW .rem (.int k a) (.int k b)=if b=0 then none else some (.int k (a.tmod b)):=by rw[fT,aiV]
theorem ajx:rW .or (.int k a) (.int k b)=some (.int k (BU k a b)):=by rw[fT,alu]
theorem agA:rW .and (.int k a) (.int k b)=some (.int k (nY k a b)):=by rw[fT,aiW]
theorem agB:rW .xor (.int k a) (.int k b)=some (.int k (afK k a b)):=by rw[fT,aiX]
theorem agC:rW .shl (.int k a) (.int k' b)=if b<0 then none else some (.int k (Mh k a b)):=by rw[fT,aiY]
theorem agD:rW .shr (.int k a) (.int k' b)=if b<0 then none else some (.int k (a.fdiv (2 ^ (min b.toNat k.bits)))):=by rw[fT,aiZ]
theorem agE:rW .eql (.int k a) (.int k b)=some (.bool (a==b)):=by rw[fT,ai0]
theorem agF:rW .neq (.int k a) (.int k b)=some (.bool (a != b)):=by rw[fT,ai1]
theorem agG:rW .lss (.int k a) (.int k b)=some (.bool (decide (a<b))):=by rw[fT,ai2]
theorem agH:rW .leq (.int k a) (.int k b)=some (.bool (decide (a<=b))):=by rw[fT,ai3]
theorem agI:rW .gtr (.int k a) (.int k b)=some (.bool (decide (b<a))):=by rw[fT,ai4]
theorem agJ:rW .geq (.int k a) (.int k b)=some (.bool (decide (b<=a))):=by rw[fT,ai5]
theorem aA {g:Nat}{F:bO}{args:List FV}{B:List ah}(hp:E.jq g=none)(hf:E.fn g=some F)(hl:args.length=F.np) :
  CL E n g args B=match EX E n F.body {vars:=args++List.replicate (F.nv-F.np) .u,base:=B,loc:=[],aX:=false} with
    | some (.exit _,_)=>none
    | some (_,st')=>finish F st'
    | none=>none:=by
 rw[jS,rM,Hy hp hf hl];rfl
end
theorem sQ {E:Env}{n g:Nat}{p:List FV->List ah->bJ}{args:List FV}{B:List ah}(hp:E.jq g=none)(hf:E.fn g=none)(hB:E.iO g=some p) :
  CL E n g args B=match p args B with
    | some (v,some B')=>if B.length<=B'.length then some (v,some B') else none
    | r=>r:=by
 rw[jS,OM hp hf hB];rfl
theorem dC {E:Env}{n m g:Nat}{args:List FV}{B:List ah}{x:FV × Option (List ah)}(hx:CL E n g args B=some x)(hm:n<=m):CL E m g args B=some x:=by
 rw[jS]at hx ⊢;exact yX hx hm
theorem Ca.bQ {E:Env}{n g:Nat}{args:List FV}{r:FV × Option (List ah)}(h:CL E n g args []=some r):Ca E g args r:=Ca.of (by rw[<-jS];exact h)
theorem Ca.get {E:Env}{g:Nat}{args:List FV}{r:FV × Option (List ah)}(h:Ca E g args r):∃ n0,∀ k,CL E (n0+k) g args []=some r:=by
 obtain⟨n0,h⟩:=h;exact⟨n0,fun k=>by rw[jS];exact h _ ae⟩
theorem Ca.any {E:Env}{g:Nat}{args:List FV}{r:FV × Option (List ah)}(h:Ca E g args r):∃ n0,∀ n,n0<=n->∀ k,CL E (n+k) g args []=some r:=by
 obtain⟨n0,h⟩:=h;exact⟨n0,fun n hn k=>by rw[jS];exact h _ ae⟩
def Any (P:Nat->Prop):Prop:=∃ n0,∀ n,n0<=n->P n
theorem Ca.j {E:Env}{g:Nat}{args:List FV}{r:FV × Option (List ah)}{Q:Nat->Prop}(h:Ca E g args r)(q:Any Q):Any fun n=>(∀ k,CL E (n+k) g args []=some r)/\Q n:=by
 obtain⟨a,h⟩:=h.any;obtain⟨b,q⟩:=q;exact⟨a+b,fun n hn=>⟨h n ae,q n ae⟩⟩
theorem Any.at {P:Nat->Prop}(h:Any P)(c:Nat):∃ K,c<=K/\P K:=by
 obtain⟨a,h⟩:=h;exact⟨a+c,ae,h _ ae⟩
end
section
def aF.l:aF->aF
 | .seq a _=>a
 | _=>.skip
def aF.r:aF->aF
 | .seq _ b=>b
 | _=>.skip
def aF.bl:aF->aF
 | .block _ b=>b
 | _=>.skip
def aF.lp:aF->aF
 | .loop b=>b
 | _=>.skip
def Ex (E:Env)(c:aF)(st:St)(r:Out × St):Prop:=∃ n0,∀ n,n0<=n->exec E n c st=some r
section
variable {E:Env} {st st1 st2:St}
theorem Ex.of {n:Nat}{c:aF}{r:Out × St}(h:EX E n c st=some r):Ex E c st r:=⟨n,fun _ hm=>GQ (by rw[<-rM];exact h) hm⟩
theorem Ex.next {b:aF}{r:Out × St}(h1:Ex E b st (.norm,st1))(h2:Ex E (.loop b) st1 r):Ex E (.loop b) st r:=by
 obtain⟨n1,h1⟩:=h1;obtain⟨n2,h2⟩:=h2;refine⟨n1+n2+1,fun n hn => ?_⟩;obtain⟨m,rfl⟩:∃ m,n=m+1:=⟨n-1,ae⟩
 rw[ql,h1 m ae];exact h2 m ae
theorem Ex.out {b:aF}{o:Out}(h1:Ex E b st (o,st1))(ho:o≠.norm):Ex E (.loop b) st (o,st1):=by
 obtain⟨n1,h1⟩:=h1;refine⟨n1+1,fun n hn => ?_⟩;obtain⟨m,rfl⟩:∃ m,n=m+1:=⟨n-1,ae⟩
 rw[ql,h1 m ae];cases o with
 | norm=>exact absurd rfl ho
 | exit id=>rfl
 | ret=>rfl
theorem Ex.leave {b:aF}{r:Out × St}(h1:Ex E b st r)(ho:r.1≠.norm):Ex E (.loop b) st r:=Ex.out (o:=r.1) (st1:=r.2) h1 ho
theorem Ex.while {α:Type}{b:aF}(S:α->St)(μ:α->Nat)(R:α->Out × St)
  (step:∀ a,(∃ a',Ex E b (S a) (.norm,S a')/\μ a'<μ a/\R a'=R a)\/(Ex E b (S a) (R a)/\(R a).1≠.norm)) :
  ∀ a,Ex E (.loop b) (S a) (R a):=by
 intro a
 induction h:μ a using Nat.strongRecOn generalizing a with
 | ind k ih =>
  rcases step a with ⟨a',h1,h2,h3⟩|⟨h1,h2⟩
  ·have:=ih (μ a') ae a' rfl;rw[h3]at this;exact h1.next this
  ·exact h1.out h2
theorem Ex.inv {α:Type}{b:aF}(S:α->St)(μ:α->Nat)(I:α->Prop)(Q:Out × St->Prop)
  (step:∀ a,I a->(∃ a',Ex E b (S a) (.norm,S a')/\μ a'<μ a/\I a')\/(∃ r,Ex E b (S a) r/\r.1≠.norm/\Q r)) :
  ∀ a,I a->∃ r,Ex E (.loop b) (S a) r/\Q r:=by
 intro a ha
 induction h:μ a using Nat.strongRecOn generalizing a with
 | ind k ih =>
  rcases step a ha with ⟨a',h1,h2,h3⟩|⟨r,h1,h2,h3⟩
  ·obtain⟨r,h4,h5⟩:=ih (μ a') ae a' h3 rfl;exact⟨r,h1.next h4,h5⟩
  ·exact⟨r,h1.leave h2,h3⟩
theorem Ex.seq {a b:aF}{r:Out × St}(h1:Ex E a st (.norm,st1))(h2:Ex E b st1 r):Ex E (.seq a b) st r:=by
 obtain⟨n1,h1⟩:=h1;obtain⟨n2,h2⟩:=h2;refine⟨n1+n2+1,fun n hn => ?_⟩;obtain⟨m,rfl⟩:∃ m,n=m+1:=⟨n-1,ae⟩
 rw[uk,h1 m ae];exact h2 m ae
theorem Ex.block {id:Nat}{b:aF}(h1:Ex E b st (.exit id,st1)):Ex E (.block id b) st (.norm,st1):=by
 obtain⟨n1,h1⟩:=h1;refine⟨n1+1,fun n hn => ?_⟩;obtain⟨m,rfl⟩:∃ m,n=m+1:=⟨n-1,ae⟩
 rw[lh,h1 m ae];simp
theorem Ex.eZ {id:Nat}{b:aF}(h1:Ex E b st (.norm,st1)):Ex E (.block id b) st (.norm,st1):=by
 obtain⟨n1,h1⟩:=h1;refine⟨n1+1,fun n hn => ?_⟩;obtain⟨m,rfl⟩:∃ m,n=m+1:=⟨n-1,ae⟩
 rw[lh,h1 m ae]
theorem Ex.dR {id:Nat}{b:aF}(h1:Ex E b st (.ret,st1)):Ex E (.block id b) st (.ret,st1):=by
 obtain⟨n1,h1⟩:=h1;refine⟨n1+1,fun n hn => ?_⟩;obtain⟨m,rfl⟩:∃ m,n=m+1:=⟨n-1,ae⟩
 rw[lh,h1 m ae]
theorem Ex.gp {a b:aF}(h1:Ex E a st (.ret,st1)):Ex E (.seq a b) st (.ret,st1):=by
 obtain⟨n1,h1⟩:=h1;refine⟨n1+1,fun n hn => ?_⟩;obtain⟨m,rfl⟩:∃ m,n=m+1:=⟨n-1,ae⟩
 rw[uk,h1 m ae]
theorem Ca.body {g:Nat}{F:bO}{args:List FV}{o:Out}{r:FV × Option (List ah)}(hp:E.jq g=none)(hf:E.fn g=some F)(hl:args.length=F.np)
  (h:Ex E F.body {vars:=args++List.replicate (F.nv-F.np) .u,base:=[],loc:=[],aX:=false} (o,st1)) (ho:∀ id,o≠.exit id) (hr:finish F st1=some r):Ca E g args r:=by
 obtain⟨n0,h⟩:=h;refine⟨n0,fun n hn => ?_⟩;rw[Hy hp hf hl,h n hn];cases o with
 | exit id=>exact absurd rfl (ho id)
 | norm=>exact hr
 | ret=>exact hr
end
end
def LL (l:List Nat):List D:=l.map fun(x:Nat)=>D.v (.int .u32 (x:Int))
def LD (l:List Nat):D:=.s 1 (LL l)
def bH (l:List Nat)(i:Nat):Nat:=(l[i]?).getD 0
def val:List Nat->Nat
 | []=>0
 | x::r=>x+4294967296*val r
def bY (l:List Nat):Prop:=∀ x ∈ l,x<4294967296
theorem wrap_u64 {z:Int}(h:0<=z/\z<18446744073709551616):ak .u64 z=z:=by
 rw[cZ];simp only[IntKind.wrap,IntKind.bits,IntKind.signed];simp;omega
theorem wrap_i64 {z:Int}(h:-9223372036854775808<=z/\z<9223372036854775808):ak .i64 z=z:=by
 rw[cZ];simp only[IntKind.wrap,IntKind.bits,IntKind.signed];simp;split<;>omega
theorem wrap_u32 {z:Int}(h:0<=z/\z<4294967296):ak .u32 z=z:=by
 rw[cZ];simp only[IntKind.wrap,IntKind.bits,IntKind.signed];simp;omega
theorem dU (z:Int):ak .u32 z=z % 4294967296:=by
 rw[cZ];simp only[IntKind.wrap,IntKind.bits,IntKind.signed];simp
theorem gP (z:Int):ak .u64 z=z % 18446744073709551616:=by
 rw[cZ];simp only[IntKind.wrap,IntKind.bits,IntKind.signed];simp
theorem idx {α:Type}{es:List α}{k:Nat}{v:α}(h:es[k]?=some v)(h2:k<es.length):es[k]=v:=by
 rw[Qa1 h2]at h;exact Qy0 h
def trim:List Nat->List Nat
 | []=>[]
 | x::r=>if trim r=[]/\x=0 then [] else x::trim r
theorem uu:∀ (a:List Nat),trim (a++[0])=trim a
 | []=>by simp[trim]
 | x::r=>by
  rw[Xb0,trim,trim,uu r]
theorem uq:∀ (a:List Nat) (x:Nat),x≠0->trim (a++[x])=a++[x]
 | [],x,h=>by simp[trim,h]
 | y::r,x,h=>by
  rw[Xb0,trim,uq r x h];simp
theorem LJ:∀ (a:List Nat),val (trim a)=val a
 | []=>rfl
 | x::r=>by
  have ih:=LJ r;rw[trim];split
  ·rename_i h;rw[h.1]at ih;simp only[val]at ih ⊢;omega
  ·simp only[val];rw[ih]
theorem LM:∀ {a:List Nat},bY a->bY (trim a)
 | [],h=>h
 | x::r,h=>by
  have ih:bY (trim r):=LM (fun y hy=>h y (Qg2 _ hy));rw[trim];split
  ·intro y hy;cases hy
  ·intro y hy;rcases Qi1.1 hy with rfl|hy
   ·exact h _ (Qi2 ..)
   ·exact ih y hy
theorem su:∀ (a:List Nat),(trim a).length<=a.length
 | []=>Qd2 _
 | x::r=>by
  have:=su r;rw[trim];split<;>simp<;>omega
theorem GU:∀ (a:List Nat),trim (trim a)=trim a
 | []=>rfl
 | x::r=>by
  have ih:=GU r;rw[trim];split
  ·rfl
  ·rename_i h;rw[trim,ih];rw[if_neg h]
theorem val_inj:∀ {a b:List Nat},bY a->bY b->trim a=a->trim b=b->val a=val b->a=b
 | [],[],_,_,_,_,_=>rfl
 | [],y::s,_,hb,_,tb,h=>by
  exfalso;have hv:val (y::s)=0:=h.symm;simp only[val]at hv;have h0:y=0/\val s=0:=ae;have hs:bY s:=fun z hz=>hb z (Qg2 _ hz)
  rw[trim]at tb;split at tb
  ·cases tb
  ·rename_i hn;simp only[Xt0,true_and]at tb;have:=val_inj (a:=[]) (b:=s) (fun _ h=>by cases h) hs rfl tb (by simp[val,h0.2]);subst this;exact hn ⟨rfl,h0.1⟩
 | x::r,[],ha,_,ta,_,h=>by
  exfalso;have hv:val (x::r)=0:=h;simp only[val]at hv;have h0:x=0/\val r=0:=ae;have hr:bY r:=fun z hz=>ha z (Qg2 _ hz)
  rw[trim]at ta;split at ta
  ·cases ta
  ·rename_i hn;simp only[Xt0,true_and]at ta;have:=val_inj (a:=r) (b:=[]) hr (fun _ h=>by cases h) ta rfl (by simp[val,h0.2]);subst this;exact hn ⟨rfl,h0.1⟩
 | x::r,y::s,ha,hb,ta,tb,h=>by
  simp only[val]at h;have hx:=ha x (Qi2 ..);have hy:=hb y (Qi2 ..);have h0:x=y/\val r=val s:=ae;have hr:bY r:=fun z hz=>ha z (Qg2 _ hz)
  have hs:bY s:=fun z hz=>hb z (Qg2 _ hz)
  have tr:trim r=r:=by
   rw[trim]at ta;split at ta
   ·cases ta
   ·simpa using ta
  have ts:trim s=s:=by
   rw[trim]at tb;split at tb
   ·cases tb
   ·simpa using tb
  rw[h0.1,val_inj hr hs tr ts h0.2]
def enc (n:Nat):List Nat:=if n=0 then [] else n % 4294967296::enc (n / 4294967296)
termination_by n
theorem a_ (n:Nat):val (enc n)=n:=by
 induction n using Nat.strongRecOn with
 | ind n ih =>
  rw[enc];split
  ·subst_vars;rfl
  ·rename_i h;simp only[val];rw[ih _ ae];omega
theorem aV (n:Nat):bY (enc n):=by
 induction n using Nat.strongRecOn with
 | ind n ih =>
  rw[enc];split
  ·intro x hx;cases hx
  ·intro x hx;rcases Qi1.1 hx with rfl|hx
   ·exact Qu1 _ ae
   ·exact ih _ ae x hx
theorem eH {n:Nat}:enc n=[]↔n=0:=by
 rw[enc];split<;>simp[*]
theorem JB (n:Nat):trim (enc n)=enc n:=by
 induction n using Nat.strongRecOn with
 | ind n ih =>
  rw[enc];split
  ·rfl
  ·rename_i h;rw[trim,ih _ ae,if_neg];rintro⟨h1,h2⟩;rw[eH]at h1;omega
theorem dm {a:List Nat}(h:bY a):trim a=enc (val a) :=
 val_inj (LM h) (aV _) (GU a) (JB _) (by rw[LJ,a_])
theorem jo (l:List Nat)(k:Nat):val (l.drop k)=bH l k+4294967296*val (l.drop (k+1)):=by
 unfold bH
 by_cases h:k<l.length
 ·rw[Qj2 h,Qa1 h];simp[val]
 ·rw[Xn2 ae,Xn2 ae,Qp1 ae];simp[val]
theorem val_append:∀ (o:List Nat) (d:List Nat),val (o++d)=val o+4294967296 ^ o.length*val d
 | [],d=>by simp[val]
 | x::r,d=>by
  rw[Xb0,val,val,val_append r d,Qf2,Qn2];grind
theorem iN {l:List Nat}{k:Nat}(h:l.length<=k):val (l.drop k)=0:=by
 rw[Xn2 h];rfl
theorem oM:∀ {l:List Nat},bY l->val l<4294967296 ^ l.length
 | [],_=>by simp[val]
 | x::r,h=>by
  have h1:=oM (l:=r) (fun y hy=>h y (Qg2 _ hy));have h2:=h x (Qi2 ..);rw[val,Qf2,Qn2];generalize 4294967296 ^ r.length=p at*;omega
theorem iM {a b:List Nat}(ha:bY a)(hb:bY b):bY (a++b):=by
 intro x hx;rcases Qw0.1 hx with h|h
 ·exact ha x h
 ·exact hb x h
def cu (l:List Nat)(k:Nat):Nat:=val (l.take k)
theorem eU (l:List Nat)(k:Nat):cu l (k+1)=cu l k+4294967296 ^ k*bH l k:=by
 unfold cu bH
 by_cases h:k<l.length
 ·rw[Qp2 h,val_append,Qq0,Xs2 ae,Qa1 h];simp[val]
 ·rw[Qe1 ae,Qe1 ae,Qp1 ae];simp
theorem pE {l:List Nat}(h:bY l)(k:Nat):cu l k<4294967296 ^ k:=by
 have h1:bY (l.take k):=fun x hx=>h x (Qn1 hx)
 refine Qk1 (oM h1) (Qv0 ae ?_);simp only[Qq0];omega
theorem gF {l:List Nat}{k:Nat}(h:l.length<=k):cu l k=val l:=by unfold cu;rw[Qe1 h]
theorem jQ {va vb P x y:Nat}(h1:va<P)(h:x<y):va+P*x<vb+P*y:=by
 have:P*x+P<=P*y:=by rw[<-Nat.mul_succ];exact Q90 _ h
 omega
def row0 (o:List Nat)(m:Nat):List Nat:=o++List.replicate m 0
theorem OV (o:List Nat)(m:Nat):(LL (row0 o (m+1)))[o.length]?=some (.v (.int .u32 0)):=by
 simp[LL,row0,Qc0]
theorem Jm (o:List Nat)(m v:Nat):(LL (row0 o (m+1))).set o.length (.v (.int .u32 (v:Int)))=LL (row0 (o++[v]) m):=by
 simp[LL,row0,Q00,Xk1]
theorem rZ (o:List Nat)(m:Nat):(LL (row0 o m)).length=o.length+m:=by simp[LL,row0]
theorem wX (m:Nat):LL (row0 [] m)=List.replicate m (.v (.int .u32 0)):=by simp[LL,row0]
theorem FC (o:List Nat):row0 o 0=o:=by simp[row0]
theorem bL {m n:Nat}(h:m<=n):(enc m).length<=(enc n).length:=by
 induction n using Nat.strongRecOn generalizing m with
 | ind n ih =>
  rw[enc];split
  ·simp
  ·rename_i h0
   conv=>rhs;rw[enc]
   rw[if_neg ae];simp only[Qf2];have:=@ih (n / 4294967296) ae (m / 4294967296) ae;omega
abbrev vI (n : Int) : D := .v (.int .i64 n)
abbrev vB (b : Bool) : D := .v (.bool b)
abbrev dI (n : Int) : FV := .d (.v (.int .i64 n))
abbrev dB (b : Bool) : FV := .d (.v (.bool b))
abbrev rL (i : Nat) : FV := .r (.loc i) 0
theorem nx {E : Env} {c : aF} {s t : St} (_ : Ex E c s (.norm, t)) (d : aF) (u : St) (h : Ex E d t (.norm, u)) : Ex E d t (.norm, u) := h
theorem e6 {E : Env} {c : aF} {s : St} {r : Out × St} (h : EX E 60 c s = some r) : Ex E c s r := Ex.of h
theorem wI {x : Int} (h : -9223372036854775808 <= x /\ x < 9223372036854775808 := by omega) : ak .i64 x = x := wrap_i64 h
abbrev u3K : List FV := [.u,.u,.u]
abbrev wW : List FV := [.u,.u,.u,.u]
abbrev n_ : List FV := [.u,.u,.u,.u,.u]
abbrev uV : List FV := [.u,.u,.u,.u,.u,.u]
abbrev rX : List FV := [.u,.u,.u,.u,.u,.u,.u]
abbrev zW : List FV := [.u,.u,.u,.u,.u,.u,.u,.u]
abbrev OU : List FV := [.u,.u,.u,.u,.u,.u,.u,.u,.u]
abbrev rT : List FV := [.u,.u,.u,.u,.u,.u,.u,.u,.u,.u]
abbrev GX : List FV := [.u,.u,.u,.u,.u,.u,.u,.u,.u,.u,.u]
abbrev EY : List FV := [.u,.u,.u,.u,.u,.u,.u,.u,.u,.u,.u,.u]
abbrev EZ : List FV := [.u,.u,.u,.u,.u,.u,.u,.u,.u,.u,.u,.u,.u]
abbrev Ma : List FV := [.u,.u,.u,.u,.u,.u,.u,.u,.u,.u,.u,.u,.u,.u]
abbrev TS : List FV := [.u,.u,.u,.u,.u,.u,.u,.u,.u,.u,.u,.u,.u,.u,.u]
abbrev Ze : List FV := [.u,.u,.u,.u,.u,.u,.u,.u,.u,.u,.u,.u,.u,.u,.u,.u]
abbrev agr : List FV := [.u,.u,.u,.u,.u,.u,.u,.u,.u,.u,.u,.u,.u,.u,.u,.u,.u]
abbrev ags : List FV := [.u,.u,.u,.u,.u,.u,.u,.u,.u,.u,.u,.u,.u,.u,.u,.u,.u,.u]
abbrev akE : List FV := [.u,.u,.u,.u,.u,.u,.u,.u,.u,.u,.u,.u,.u,.u,.u,.u,.u,.u,.u]
abbrev amH : List FV := [.u,.u,.u,.u,.u,.u,.u,.u,.u,.u,.u,.u,.u,.u,.u,.u,.u,.u,.u,.u]
abbrev amI : List FV := [.u,.u,.u,.u,.u,.u,.u,.u,.u,.u,.u,.u,.u,.u,.u,.u,.u,.u,.u,.u,.u]
abbrev amJ : List FV := [.u,.u,.u,.u,.u,.u,.u,.u,.u,.u,.u,.u,.u,.u,.u,.u,.u,.u,.u,.u,.u,.u]

end Fi
