import Derived.Test.YtckkhcnfdmlabaaGreatDoorFiE
set_option linter.unusedVariables false
set_option linter.unusedSimpArgs false
namespace Fi
open Go
def SG:IntKind->IntKind->Bool
 | .i8,.i8 | .i16,.i16 | .i32,.i32 | .i64,.i64 | .u8,.u8 | .u16,.u16 | .u32,.u32 | .u64,.u64=>true
 | _,_=>false
theorem Vx {a b:IntKind}(h:SG a b=true):a=b:=by cases a<;>cases b<;>first|rfl|cases h
def Ia:Int->Int->Bool
 | .ofNat a,.ofNat b=>Nat.beq a b
 | .negSucc a,.negSucc b=>Nat.beq a b
 | _,_=>false
theorem Vy {a b:Int}(h:Ia a b=true):a=b:=by
 cases a<;>cases b<;>simp only[Ia]at h<;>first|(cases h;done)|(rw[Nat.eq_of_beq_eq_true h])
def Ic:Value->Value->Bool
 | .int k a,.int k' b=>SG k k'&&Ia a b
 | .bool a,.bool b=>a==b
 | _,_=>false
theorem Vz {a b:Value}(h:Ic a b=true):a=b:=by
 unfold Ic at h;split at h
 ·simp only[Bool.and_eq_true]at h;rw[Vx h.1,Vy h.2]
 ·rw[eq_of_beq h]
 ·cases h
mutual
def jy:D->D->Bool
 | .v x,.v y=>Ic x y
 | .fn a,.fn b=>Nat.beq a b
 | .n a,.n b=>Nat.beq a b
 | .i,.i=>true
 | .s a xs,.s b ys=>Nat.beq a b&&jg xs ys
 | .a xs,.a ys=>jg xs ys
 | .t xs,.t ys=>jg xs ys
 | _,_=>false
def jg:List D->List D->Bool
 | [],[]=>true
 | x::xs,y::ys=>jy x y&&jg xs ys
 | _,_=>false
end
mutual
theorem mo:∀ {x y:D},jy x y=true->x=y
 | .v x,y,h=>by
  cases y<;>simp only[jy]at h<;>first|(cases h;done)|(rw[Vz h])
 | .fn a,y,h=>by
  cases y<;>simp only[jy]at h<;>first|(cases h;done)|(rw[Nat.eq_of_beq_eq_true h])
 | .n a,y,h=>by
  cases y<;>simp only[jy]at h<;>first|(cases h;done)|(rw[Nat.eq_of_beq_eq_true h])
 | .i,y,h=>by
  cases y<;>simp only[jy]at h<;>first|(cases h;done)|rfl
 | .s a xs,y,h=>by
  cases y<;>simp only[jy]at h<;>first|(cases h;done)|skip
  simp only[Bool.and_eq_true]at h;rw[Nat.eq_of_beq_eq_true h.1,xe h.2]
 | .a xs,y,h=>by
  cases y<;>simp only[jy]at h<;>first|(cases h;done)|(rw[xe h])
 | .t xs,y,h=>by
  cases y<;>simp only[jy]at h<;>first|(cases h;done)|(rw[xe h])
theorem xe:∀ {xs ys:List D},jg xs ys=true->xs=ys
 | [],ys,h=>by
  cases ys with
  | nil=>rfl
  | cons _ _=>simp only[jg]at h;cases h
 | x::xs,ys,h=>by
  cases ys with
  | nil=>simp only[jg]at h;cases h
  | cons y ys =>
   simp only[jg,Bool.and_eq_true]at h;rw[mo h.1,xe h.2]
end
def afv (r:bF)(x:D):Bool:=match r with
 | some (.d y,none)=>jy y x
 | _=>false
theorem XI {r:bF}{x:D}(h:afv r x=true):r=some (.d x,none):=by
 unfold afv at h;split at h
 ·rw[mo h]
 ·cases h
theorem aag {n:Nat}{f:Nat->Bool}(h:(List.range n).all f=true){i:Nat}(hi:i<n):f i=true:=List.all_eq_true.1 h i (List.mem_range.2 hi)
section
theorem Fb {α:Sort _}(a:α):∃ z,z=a:=⟨a,rfl⟩
noncomputable def pY {α:Sort _} (a:α):α:=Classical.choose (Fb a)
theorem kz {α:Sort _}(a:α):pY a=a:=Classical.choose_spec (Fb a)
noncomputable def EX (E:Env) (n:Nat) (c:aH) (st:St):Option (Out × St):=pY (exec E n c st)
noncomputable def CL (E:Env) (n:Nat) (g:Nat) (args:List FV) (B:List ae):bF:=pY (bU E n g args B)
noncomputable def QK (E:Env) (rec:Nat->List FV->List ae->bF) (ops:List jc) (st:St) (env:List FV):Option (St × List FV):=pY (dN E rec ops st env)
noncomputable def RK (E:Env) (rec:Nat->List FV->List ae->bF) (draw:Bool) (st:St) (env:List FV) (k:K):Option (FV × St):=pY (runK E rec draw st env k)
noncomputable def qw (op:BinOp) (x y:Value):Option Value:=pY (gz op x y)
noncomputable def ah (k:IntKind) (z:Int):Int:=pY (k.wrap z)
theorem p9 (E:Env)(n:Nat)(c:aH)(st:St):EX E n c st=exec E n c st:=kz _
theorem jw (E:Env)(n g:Nat)(args:List FV)(B:List ae):CL E n g args B=bU E n g args B:=kz _
theorem Aa (E:Env)(rec:Nat->List FV->List ae->bF)(ops:List jc)(st:St)(env:List FV):QK E rec ops st env=dN E rec ops st env:=kz _
theorem cK (E:Env)(rec:Nat->List FV->List ae->bF)(draw:Bool)(st:St)(env:List FV)(k:K):RK E rec draw st env k=runK E rec draw st env k:=kz _
theorem eO (op:BinOp)(x y:Value):qw op x y=gz op x y:=kz _
theorem b_ (k:IntKind)(z:Int):ah k z=k.wrap z:=kz _
theorem acj (E:Env)(n:Nat):CL E n=bU E n:=by funext g args B;exact jw E n g args B
section
variable {E:Env} {n:Nat} {st:St}
theorem VY:EX E (n+1) .skip st=some (.norm,st):=by rw[p9];rfl
theorem ZM:EX E (n+1) .ret st=some (.ret,st):=by rw[p9];rfl
theorem VZ {id:Nat}:EX E (n+1) (.exit id) st=some (.exit id,st):=by rw[p9];rfl
theorem V3 {js:List Nat}:EX E (n+1) (.kill js) st=some (.norm,{st with vars:=ma st.vars js}):=by rw[p9];rfl
theorem ZN {a b : aH} : EX E (n + 1) (.seq a b) st = match EX E n a st with
      | some (.norm, st') => EX E n b st'
      | r => r := by
 simp only[p9];rfl
theorem V4 {x : Arg} {a b : aH} : EX E (n + 1) (.cond x a b) st = match dw E st [] x with
      | some (.d (.v (.bool t))) => EX E n (if t then a else b) st
      | _ => none := by
 simp only[p9];rfl
theorem QZ {id : Nat} {b : aH} : EX E (n + 1) (.block id b) st = match EX E n b st with
      | some (.exit id', st') => if id' = id then some (.norm, st') else some (.exit id', st')
      | r => r := by
 simp only[p9];rfl
theorem aC {b : aH} : EX E (n + 1) (.loop b) st = match EX E n b st with
      | some (.norm, st') => EX E n (.loop b) st'
      | r => r := by
 simp only[p9];rfl
theorem NZ {ops:List jc}{outs apart:List (Nat × Nat)}:EX E (n+1) (.region ops outs apart) st =
  if kC st apart then(match QK E (CL E n) ops st [] with
   | some (st',env)=>some (.norm,{st' with vars:=iY st'.vars env outs})
   | none=>none) else none:=by
 simp only[p9,Aa,acj];rfl
variable {rec:Nat->List FV->List ae->bF} {env:List FV} {draw:Bool}
theorem Q0:QK E rec [] st env=some (st,env):=by rw[Aa];rfl
theorem N_ {o:jc}{rest:List jc}:QK E rec (o::rest) st env=match kY env o.guard with
  | none=>none
  | some false=>QK E rec rest st (env++[.d (.t [])])
  | some true=>match RK E rec o.q st env o.k with
   | none=>none
   | some (v,st')=>QK E rec rest st' (env++[v]):=by
 simp only[Aa,cK];rfl
theorem ZO {x:Arg}:RK E rec draw st env (.zM x)=match dw E st env x with
  | some v=>some (v,st)
  | none=>none:=by rw[cK];rfl
theorem V5 {c a b:Arg}:RK E rec draw st env (.pick c a b)=match dw E st env c with
  | some (.d (.v (.bool t)))=>match dw E st env (if t then a else b) with
   | some v=>some (v,st)
   | none=>none
  | _=>none:=by rw[cK];rfl
theorem ZP {op:BinOp}{x y:Arg}:RK E rec draw st env (.bin op x y)=match dw E st env x,dw E st env y with
  | some (.d (.v p)),some (.d (.v q))=>match qw op p q with
   | some v=>some (.d (.v v),st)
   | none=>none
  | _,_=>none:=by simp only[cK,eO];rfl
theorem V6 {k:IntKind}{x:Arg}:RK E rec draw st env (.conv k x)=match dw E st env x with
  | some (.d (.v (.int _ n)))=>some (.d (.v (.int k (ah k n))),st)
  | _=>none:=by simp only[cK,b_];rfl
theorem ZQ {neg:Bool}{x y:Arg}:RK E rec draw st env (.beq neg x y)=runK E rec draw st env (.beq neg x y):=cK ..
theorem ZR {neg:Bool}{l:Nat}{x y:Arg}:RK E rec draw st env (.Zw neg l x y)=runK E rec draw st env (.Zw neg l x y):=cK ..
theorem Q3 {k:Nat}{neg:Bool}{x:Arg}:RK E rec draw st env (.wN k neg x)=runK E rec draw st env (.wN k neg x):=cK ..
theorem ac2 {op:UnOp}{x:Arg}:RK E rec draw st env (.un op x)=runK E rec draw st env (.un op x):=cK ..
theorem ZT {x:Arg}:RK E rec draw st env (.box x)=runK E rec draw st env (.box x):=cK ..
theorem ZU {z:List D}:RK E rec draw st env (.new z)=runK E rec draw st env (.new z):=cK ..
theorem V7 {agg:Bool}{n:Nat}{p:Arg}:RK E rec draw st env (.load agg n p)=runK E rec draw st env (.load agg n p):=cK ..
theorem Q4 {n:Nat}{p x:Arg}:RK E rec draw st env (.store n p x)=runK E rec draw st env (.store n p x):=cK ..
theorem Q5 {off:Nat}{agg:Bool}{n:Nat}{p:Arg}:RK E rec draw st env (.NM off agg n p)=runK E rec draw st env (.NM off agg n p):=cK ..
theorem Q6 {off:Nat}{agg:Bool}{n:Nat}{p:Arg}:RK E rec draw st env (.field off agg n p)=runK E rec draw st env (.field off agg n p):=cK ..
theorem Q7 {sz:Nat}{x i:Arg}:RK E rec draw st env (.NN sz x i)=runK E rec draw st env (.NN sz x i):=cK ..
theorem Q8 {len sz:Nat}{agg:Bool}{x i:Arg}:RK E rec draw st env (.NP len sz agg x i)=runK E rec draw st env (.NP len sz agg x i):=cK ..
theorem Q9 {len sz:Nat}{agg:Bool}{x i:Arg}:RK E rec draw st env (.index len sz agg x i)=runK E rec draw st env (.index len sz agg x i):=cK ..
theorem Q_ {z:List D}{ps:List (Nat × Nat × Arg)}:RK E rec draw st env (.build z ps)=runK E rec draw st env (.build z ps):=cK ..
theorem ZV {sz:Nat}{agg:Bool}{z:List D}{len:Nat}{ps:List (Nat × Arg)}:RK E rec draw st env (.lit sz agg z len ps)=runK E rec draw st env (.lit sz agg z len ps):=cK ..
theorem ZW {x:Arg}:RK E rec draw st env (.len x)=runK E rec draw st env (.len x):=cK ..
theorem V8 {x y:Arg}:RK E rec draw st env (.maxi x y)=runK E rec draw st env (.maxi x y):=cK ..
theorem V9 {x y:Arg}:RK E rec draw st env (.Yy x y)=runK E rec draw st env (.Yy x y):=cK ..
theorem ZX {sz b:Nat}{x y:Arg}:RK E rec draw st env (.app sz b x y)=runK E rec draw st env (.app sz b x y):=cK ..
theorem Ra {sz:Nat}{x:Arg}{lo hi:Option Arg}:RK E rec draw st env (.slice sz x lo hi)=runK E rec draw st env (.slice sz x lo hi):=cK ..
theorem ac3 {sz b:Nat}{agg:Bool}{z:List D}{len cap:Arg}:RK E rec draw st env (.mk sz b agg z len cap)=runK E rec draw st env (.mk sz b agg z len cap):=cK ..
theorem ZY {x:Arg}{i:Nat}:RK E rec draw st env (.ext x i)=runK E rec draw st env (.ext x i):=cK ..
theorem ZZ {g:Nat}{a b:List Arg}:RK E rec draw st env (.clo g a b)=runK E rec draw st env (.clo g a b):=cK ..
theorem Re {g:Nat}{args:List Arg}:RK E rec draw st env (.p8 g args)=runK E rec draw st env (.p8 g args):=cK ..
theorem Z4 {x:Arg}:RK E rec draw st env (.cap x)=runK E rec draw st env (.cap x):=cK ..
theorem Wh {sz b:Nat}{agg:Bool}{z:List D}{x n:Arg}:RK E rec draw st env (.U7 sz b agg z x n)=runK E rec draw st env (.U7 sz b agg z x n):=cK ..
theorem Ri:RK E rec draw st env .Jt=runK E rec draw st env .Jt:=cK ..
theorem Wd {ok:Bool}{kind:Nat}{z:D}{m k:Arg}:RK E rec draw st env (.U8 ok kind z m k)=runK E rec draw st env (.U8 ok kind z m k):=cK ..
theorem We {kind:Nat}{m k x:Arg}:RK E rec draw st env (.Md kind m k x)=runK E rec draw st env (.Md kind m k x):=cK ..
theorem DZ {x i:Arg}:RK E rec draw st env (.um x i)=runK E rec draw st env (.um x i):=cK ..
theorem Wi {x:Arg}:RK E rec draw st env (.Yx x)=runK E rec draw st env (.Yx x):=cK ..
theorem Ob {x:Arg}{lo hi:Option Arg}:RK E rec draw st env (.Gp x lo hi)=runK E rec draw st env (.Gp x lo hi):=cK ..
theorem V_ {g:Nat}{args:List Arg}:RK E rec draw st env (.call g args)=runK E rec draw st env (.call g args):=cK ..
theorem Rf {f:Arg}{args ps:List Arg}:RK E rec draw st env (.lF f args ps)=runK E rec draw st env (.lF f args ps):=cK ..
theorem Rh {agg:Bool}{n:Nat}{p:Arg}:RK E rec draw st env (.jh agg n p)=runK E rec draw st env (.jh agg n p):=cK ..
theorem Oa {n:Nat}{p x:Arg}{ps:List Arg}:RK E rec draw st env (.iP n p x ps)=runK E rec draw st env (.iP n p x ps):=cK ..
theorem Z0 {sz:Nat}{agg:Bool}{z:List D}{x:Arg}:RK E rec draw st env (.clr sz agg z x)=runK E rec draw st env (.clr sz agg z x):=cK ..
theorem Rb {f:Arg}{args:List Arg}:RK E rec draw st env (.mF f args)=runK E rec draw st env (.mF f args):=cK ..
variable {k k':IntKind} {a b:Int}
theorem ac4:qw .add (.int k a) (.int k b)=some (.int k (ah k (a+b))):=by rw[eO,b_,afg]
theorem ac5:qw .sub (.int k a) (.int k b)=some (.int k (ah k (a-b))):=by rw[eO,b_,afh]
theorem ac6:qw .mul (.int k a) (.int k b)=some (.int k (ah k (a*b))):=by rw[eO,b_,afi]
theorem ac7:qw .quo (.int k a) (.int k b)=if b=0 then none else some (.int k (ah k (a.tdiv b))):=by rw[eO,b_,afj]
theorem ac8:qw .rem (.int k a) (.int k b)=if b=0 then none else some (.int k (a.tmod b)):=by rw[eO,afk]
theorem afZ:qw .or (.int k a) (.int k b)=some (.int k (Am k a b)):=by rw[eO,ahT]
theorem ac9:qw .and (.int k a) (.int k b)=some (.int k (nE k a b)):=by rw[eO,afl]
theorem ac_:qw .xor (.int k a) (.int k b)=some (.int k (aci k a b)):=by rw[eO,afm]
theorem ac':qw .shl (.int k a) (.int k' b)=if b<0 then none else some (.int k (Kb k a b)):=by rw[eO,afn]
theorem ada:qw .shr (.int k a) (.int k' b)=if b<0 then none else some (.int k (a.fdiv (2 ^ (min b.toNat k.bits)))):=by rw[eO,afo]
theorem adb:qw .eql (.int k a) (.int k b)=some (.bool (a==b)):=by rw[eO,afp]
theorem ade:qw .neq (.int k a) (.int k b)=some (.bool (a != b)):=by rw[eO,afq]
theorem adf:qw .lss (.int k a) (.int k b)=some (.bool (decide (a<b))):=by rw[eO,afr]
theorem adg:qw .leq (.int k a) (.int k b)=some (.bool (decide (a<=b))):=by rw[eO,afs]
theorem adh:qw .gtr (.int k a) (.int k b)=some (.bool (decide (b<a))):=by rw[eO,aft]
theorem adi:qw .geq (.int k a) (.int k b)=some (.bool (decide (b<=a))):=by rw[eO,afu]
theorem ak {g:Nat}{F:ai}{args:List FV}{B:List ae}(hp:E.iR g=none)(hf:E.fn g=some F)(hl:args.length=F.np) :
  CL E n g args B=match EX E n F.body {vars:=args++List.replicate (F.nv-F.np) .u,base:=B,loc:=[],aP:=false} with
    | some (.exit _,_)=>none
    | some (_,st')=>finish F st'
    | none=>none:=by
 rw[jw,p9,FT hp hf hl];rfl
end
theorem qU {E:Env}{n g:Nat}{p:List FV->List ae->bF}{args:List FV}{B:List ae}(hp:E.iR g=none)(hf:E.fn g=none)(hB:E.ik g=some p) :
  CL E n g args B=match p args B with
    | some (v,some B')=>if B.length<=B'.length then some (v,some B') else none
    | r=>r:=by
 rw[jw,MI hp hf hB];rfl
theorem eD {E:Env}{n m g:Nat}{args:List FV}{B:List ae}{x:FV × Option (List ae)}(hx:CL E n g args B=some x)(hm:n<=m):CL E m g args B=some x:=by
 rw[jw]at hx ⊢;exact xK hx hm
theorem Ca.bO {E:Env}{n g:Nat}{args:List FV}{r:FV × Option (List ae)}(h:CL E n g args []=some r):Ca E g args r:=Ca.of (by rw[<-jw];exact h)
theorem Ca.get {E:Env}{g:Nat}{args:List FV}{r:FV × Option (List ae)}(h:Ca E g args r):∃ n0,∀ k,CL E (n0+k) g args []=some r:=by
 obtain⟨n0,h⟩:=h;exact⟨n0,fun k=>by rw[jw];exact h _ (by omega)⟩
theorem Ca.any {E:Env}{g:Nat}{args:List FV}{r:FV × Option (List ae)}(h:Ca E g args r):∃ n0,∀ n,n0<=n->∀ k,CL E (n+k) g args []=some r:=by
 obtain⟨n0,h⟩:=h;exact⟨n0,fun n hn k=>by rw[jw];exact h _ (by omega)⟩
def Any (P:Nat->Prop):Prop:=∃ n0,∀ n,n0<=n->P n
theorem Ca.j {E:Env}{g:Nat}{args:List FV}{r:FV × Option (List ae)}{Q:Nat->Prop}(h:Ca E g args r)(q:Any Q):Any fun n=>(∀ k,CL E (n+k) g args []=some r)/\Q n:=by
 obtain⟨a,h⟩:=h.any;obtain⟨b,q⟩:=q;exact⟨a+b,fun n hn=>⟨h n (by omega),q n (by omega)⟩⟩
theorem Any.at {P:Nat->Prop}(h:Any P)(c:Nat):∃ K,c<=K/\P K:=by
 obtain⟨a,h⟩:=h;exact⟨a+c,by omega,h _ (by omega)⟩
end
section
def aH.l:aH->aH
 | .seq a _=>a
 | _=>.skip
def aH.r:aH->aH
 | .seq _ b=>b
 | _=>.skip
def aH.bl:aH->aH
 | .block _ b=>b
 | _=>.skip
def aH.lp:aH->aH
 | .loop b=>b
 | _=>.skip
def Ex (E:Env)(c:aH)(st:St)(r:Out × St):Prop:=∃ n0,∀ n,n0<=n->exec E n c st=some r
section
variable {E:Env} {st st1 st2:St}
theorem Ex.of {n:Nat}{c:aH}{r:Out × St}(h:EX E n c st=some r):Ex E c st r:=⟨n,fun _ hm=>Fa (by rw[<-p9];exact h) hm⟩
theorem Ex.next {b:aH}{r:Out × St}(h1:Ex E b st (.norm,st1))(h2:Ex E (.loop b) st1 r):Ex E (.loop b) st r:=by
 obtain⟨n1,h1⟩:=h1;obtain⟨n2,h2⟩:=h2;refine⟨n1+n2+1,fun n hn => ?_⟩;obtain⟨m,rfl⟩:∃ m,n=m+1:=⟨n-1,by omega⟩
 rw[oz,h1 m (by omega)];exact h2 m (by omega)
theorem Ex.out {b:aH}{o:Out}(h1:Ex E b st (o,st1))(ho:o≠.norm):Ex E (.loop b) st (o,st1):=by
 obtain⟨n1,h1⟩:=h1;refine⟨n1+1,fun n hn => ?_⟩;obtain⟨m,rfl⟩:∃ m,n=m+1:=⟨n-1,by omega⟩
 rw[oz,h1 m (by omega)];cases o with
 | norm=>exact absurd rfl ho
 | exit id=>rfl
 | ret=>rfl
theorem Ex.leave {b:aH}{r:Out × St}(h1:Ex E b st r)(ho:r.1≠.norm):Ex E (.loop b) st r:=Ex.out (o:=r.1) (st1:=r.2) h1 ho
theorem Ex.while {α:Type}{b:aH}(S:α->St)(μ:α->Nat)(R:α->Out × St)
  (step:∀ a,(∃ a',Ex E b (S a) (.norm,S a')/\μ a'<μ a/\R a'=R a)\/(Ex E b (S a) (R a)/\(R a).1≠.norm)) :
  ∀ a,Ex E (.loop b) (S a) (R a):=by
 intro a
 induction h:μ a using Nat.strongRecOn generalizing a with
 | ind k ih =>
  rcases step a with ⟨a',h1,h2,h3⟩|⟨h1,h2⟩
  ·have:=ih (μ a') (by omega) a' rfl;rw[h3]at this;exact h1.next this
  ·exact h1.out h2
theorem Ex.inv {α:Type}{b:aH}(S:α->St)(μ:α->Nat)(I:α->Prop)(Q:Out × St->Prop)
  (step:∀ a,I a->(∃ a',Ex E b (S a) (.norm,S a')/\μ a'<μ a/\I a')\/(∃ r,Ex E b (S a) r/\r.1≠.norm/\Q r)) :
  ∀ a,I a->∃ r,Ex E (.loop b) (S a) r/\Q r:=by
 intro a ha
 induction h:μ a using Nat.strongRecOn generalizing a with
 | ind k ih =>
  rcases step a ha with ⟨a',h1,h2,h3⟩|⟨r,h1,h2,h3⟩
  ·obtain⟨r,h4,h5⟩:=ih (μ a') (by omega) a' h3 rfl;exact⟨r,h1.next h4,h5⟩
  ·exact⟨r,h1.leave h2,h3⟩
theorem Ex.seq {a b:aH}{r:Out × St}(h1:Ex E a st (.norm,st1))(h2:Ex E b st1 r):Ex E (.seq a b) st r:=by
 obtain⟨n1,h1⟩:=h1;obtain⟨n2,h2⟩:=h2;refine⟨n1+n2+1,fun n hn => ?_⟩;obtain⟨m,rfl⟩:∃ m,n=m+1:=⟨n-1,by omega⟩
 rw[rT,h1 m (by omega)];exact h2 m (by omega)
theorem Ex.block {id:Nat}{b:aH}(h1:Ex E b st (.exit id,st1)):Ex E (.block id b) st (.norm,st1):=by
 obtain⟨n1,h1⟩:=h1;refine⟨n1+1,fun n hn => ?_⟩;obtain⟨m,rfl⟩:∃ m,n=m+1:=⟨n-1,by omega⟩
 rw[ky,h1 m (by omega)];simp
theorem Ex.h_ {id:Nat}{b:aH}(h1:Ex E b st (.norm,st1)):Ex E (.block id b) st (.norm,st1):=by
 obtain⟨n1,h1⟩:=h1;refine⟨n1+1,fun n hn => ?_⟩;obtain⟨m,rfl⟩:∃ m,n=m+1:=⟨n-1,by omega⟩
 rw[ky,h1 m (by omega)]
theorem Ex.cO {id:Nat}{b:aH}(h1:Ex E b st (.ret,st1)):Ex E (.block id b) st (.ret,st1):=by
 obtain⟨n1,h1⟩:=h1;refine⟨n1+1,fun n hn => ?_⟩;obtain⟨m,rfl⟩:∃ m,n=m+1:=⟨n-1,by omega⟩
 rw[ky,h1 m (by omega)]
theorem Ex.dI {a b:aH}(h1:Ex E a st (.ret,st1)):Ex E (.seq a b) st (.ret,st1):=by
 obtain⟨n1,h1⟩:=h1;refine⟨n1+1,fun n hn => ?_⟩;obtain⟨m,rfl⟩:∃ m,n=m+1:=⟨n-1,by omega⟩
 rw[rT,h1 m (by omega)]
theorem Ca.body {g:Nat}{F:ai}{args:List FV}{o:Out}{r:FV × Option (List ae)}(hp:E.iR g=none)(hf:E.fn g=some F)(hl:args.length=F.np)
  (h:Ex E F.body {vars:=args++List.replicate (F.nv-F.np) .u,base:=[],loc:=[],aP:=false} (o,st1)) (ho:∀ id,o≠.exit id) (hr:finish F st1=some r):Ca E g args r:=by
 obtain⟨n0,h⟩:=h;refine⟨n0,fun n hn => ?_⟩;rw[FT hp hf hl,h n hn];cases o with
 | exit id=>exact absurd rfl (ho id)
 | norm=>exact hr
 | ret=>exact hr
end
end
def LL (l:List Nat):List D:=l.map fun(x:Nat)=>D.v (.int .u32 (x:Int))
def LD (l:List Nat):D:=.s 1 (LL l)
def bE (l:List Nat)(i:Nat):Nat:=(l[i]?).getD 0
def val:List Nat->Nat
 | []=>0
 | x::r=>x+4294967296*val r
def bT (l:List Nat):Prop:=∀ x ∈ l,x<4294967296
theorem wrap_u64 {z:Int}(h:0<=z/\z<18446744073709551616):ah .u64 z=z:=by
 rw[b_];simp only[IntKind.wrap,IntKind.bits,IntKind.signed];simp;omega
theorem wrap_i64 {z:Int}(h:-9223372036854775808<=z/\z<9223372036854775808):ah .i64 z=z:=by
 rw[b_];simp only[IntKind.wrap,IntKind.bits,IntKind.signed];simp;split<;>omega
theorem wrap_u32 {z:Int}(h:0<=z/\z<4294967296):ah .u32 z=z:=by
 rw[b_];simp only[IntKind.wrap,IntKind.bits,IntKind.signed];simp;omega
theorem dD (z:Int):ah .u32 z=z % 4294967296:=by
 rw[b_];simp only[IntKind.wrap,IntKind.bits,IntKind.signed];simp
theorem fM (z:Int):ah .u64 z=z % 18446744073709551616:=by
 rw[b_];simp only[IntKind.wrap,IntKind.bits,IntKind.signed];simp
theorem idx {α:Type}{es:List α}{k:Nat}{v:α}(h:es[k]?=some v)(h2:k<es.length):es[k]=v:=by
 rw[List.getElem?_eq_getElem h2]at h;exact Option.some.inj h
def trim:List Nat->List Nat
 | []=>[]
 | x::r=>if trim r=[]/\x=0 then [] else x::trim r
theorem rX:∀ (a:List Nat),trim (a++[0])=trim a
 | []=>by simp[trim]
 | x::r=>by
  rw[List.cons_append,trim,trim,rX r]
theorem rW:∀ (a:List Nat) (x:Nat),x≠0->trim (a++[x])=a++[x]
 | [],x,h=>by simp[trim,h]
 | y::r,x,h=>by
  rw[List.cons_append,trim,rW r x h];simp
theorem JQ:∀ (a:List Nat),val (trim a)=val a
 | []=>rfl
 | x::r=>by
  have ih:=JQ r;rw[trim];split
  ·rename_i h;rw[h.1]at ih;simp only[val]at ih ⊢;omega
  ·simp only[val];rw[ih]
theorem JR:∀ {a:List Nat},bT a->bT (trim a)
 | [],h=>h
 | x::r,h=>by
  have ih:bT (trim r):=JR (fun y hy=>h y (List.mem_cons_of_mem _ hy));rw[trim];split
  ·intro y hy;cases hy
  ·intro y hy;rcases List.mem_cons.1 hy with rfl|hy
   ·exact h _ (List.mem_cons_self ..)
   ·exact ih y hy
theorem qG:∀ (a:List Nat),(trim a).length<=a.length
 | []=>Nat.le_refl _
 | x::r=>by
  have:=qG r;rw[trim];split<;>simp<;>omega
theorem Fe:∀ (a:List Nat),trim (trim a)=trim a
 | []=>rfl
 | x::r=>by
  have ih:=Fe r;rw[trim];split
  ·rfl
  ·rename_i h;rw[trim,ih];rw[if_neg h]
theorem val_inj:∀ {a b:List Nat},bT a->bT b->trim a=a->trim b=b->val a=val b->a=b
 | [],[],_,_,_,_,_=>rfl
 | [],y::s,_,hb,_,tb,h=>by
  exfalso;have hv:val (y::s)=0:=h.symm;simp only[val]at hv;have h0:y=0/\val s=0:=by omega
  have hs:bT s:=fun z hz=>hb z (List.mem_cons_of_mem _ hz)
  rw[trim]at tb;split at tb
  ·cases tb
  ·rename_i hn;simp only[List.cons.injEq,true_and]at tb;have:=val_inj (a:=[]) (b:=s) (fun _ h=>by cases h) hs rfl tb (by simp[val,h0.2]);subst this;exact hn ⟨rfl,h0.1⟩
 | x::r,[],ha,_,ta,_,h=>by
  exfalso;have hv:val (x::r)=0:=h;simp only[val]at hv;have h0:x=0/\val r=0:=by omega
  have hr:bT r:=fun z hz=>ha z (List.mem_cons_of_mem _ hz)
  rw[trim]at ta;split at ta
  ·cases ta
  ·rename_i hn;simp only[List.cons.injEq,true_and]at ta;have:=val_inj (a:=r) (b:=[]) hr (fun _ h=>by cases h) ta rfl (by simp[val,h0.2]);subst this;exact hn ⟨rfl,h0.1⟩
 | x::r,y::s,ha,hb,ta,tb,h=>by
  simp only[val]at h;have hx:=ha x (List.mem_cons_self ..);have hy:=hb y (List.mem_cons_self ..);have h0:x=y/\val r=val s:=by omega
  have hr:bT r:=fun z hz=>ha z (List.mem_cons_of_mem _ hz)
  have hs:bT s:=fun z hz=>hb z (List.mem_cons_of_mem _ hz)
  have tr:trim r=r:=by
   rw[trim]at ta;split at ta
   ·cases ta
   ·simpa using ta
  have ts:trim s=s:=by
   rw[trim]at tb;split at tb
   ·cases tb
   ·simpa using tb
  rw[h0.1,val_inj hr hs tr ts h0.2]
def enc (n:Nat):List Nat:=if n=0 then [] else n % 4294967296::enc (n / 4294967296)
termination_by n
theorem aT (n:Nat):val (enc n)=n:=by
 induction n using Nat.strongRecOn with
 | ind n ih =>
  rw[enc];split
  ·subst_vars;rfl
  ·rename_i h;simp only[val];rw[ih _ (by omega)];omega
theorem aQ (n:Nat):bT (enc n):=by
 induction n using Nat.strongRecOn with
 | ind n ih =>
  rw[enc];split
  ·intro x hx;cases hx
  ·intro x hx;rcases List.mem_cons.1 hx with rfl|hx
   ·exact Nat.mod_lt _ (by omega)
   ·exact ih _ (by omega) x hx
theorem dR {n:Nat}:enc n=[]↔n=0:=by
 rw[enc];split<;>simp[*]
theorem Hm (n:Nat):trim (enc n)=enc n:=by
 induction n using Nat.strongRecOn with
 | ind n ih =>
  rw[enc];split
  ·rfl
  ·rename_i h;rw[trim,ih _ (by omega),if_neg];rintro⟨h1,h2⟩;rw[dR]at h1;omega
theorem cB {a:List Nat}(h:bT a):trim a=enc (val a) :=
 val_inj (JR h) (aQ _) (Fe a) (Hm _) (by rw[JQ,aT])
theorem iQ (l:List Nat)(k:Nat):val (l.drop k)=bE l k+4294967296*val (l.drop (k+1)):=by
 unfold bE
 by_cases h:k<l.length
 ·rw[List.drop_eq_getElem_cons h,List.getElem?_eq_getElem h];simp[val]
 ·rw[List.drop_eq_nil_of_le (by omega),List.drop_eq_nil_of_le (by omega),List.getElem?_eq_none (by omega)];simp[val]
theorem val_append:∀ (o:List Nat) (d:List Nat),val (o++d)=val o+4294967296 ^ o.length*val d
 | [],d=>by simp[val]
 | x::r,d=>by
  rw[List.cons_append,val,val,val_append r d,List.length_cons,Nat.pow_succ];grind
theorem g_ {l:List Nat}{k:Nat}(h:l.length<=k):val (l.drop k)=0:=by
 rw[List.drop_eq_nil_of_le h];rfl
theorem nC:∀ {l:List Nat},bT l->val l<4294967296 ^ l.length
 | [],_=>by simp[val]
 | x::r,h=>by
  have h1:=nC (l:=r) (fun y hy=>h y (List.mem_cons_of_mem _ hy));have h2:=h x (List.mem_cons_self ..);rw[val,List.length_cons,Nat.pow_succ];generalize 4294967296 ^ r.length=p at*;omega
theorem gZ {a b:List Nat}(ha:bT a)(hb:bT b):bT (a++b):=by
 intro x hx;rcases List.mem_append.1 hx with h|h
 ·exact ha x h
 ·exact hb x h
def bW (l:List Nat)(k:Nat):Nat:=val (l.take k)
theorem dX (l:List Nat)(k:Nat):bW l (k+1)=bW l k+4294967296 ^ k*bE l k:=by
 unfold bW bE
 by_cases h:k<l.length
 ·rw[List.take_succ_eq_append_getElem h,val_append,List.length_take,Nat.min_eq_left (by omega),List.getElem?_eq_getElem h];simp[val]
 ·rw[List.take_of_length_le (by omega),List.take_of_length_le (by omega),List.getElem?_eq_none (by omega)];simp
theorem nL {l:List Nat}(h:bT l)(k:Nat):bW l k<4294967296 ^ k:=by
 have h1:bT (l.take k):=fun x hx=>h x (List.mem_of_mem_take hx)
 refine Nat.lt_of_lt_of_le (nC h1) (Nat.pow_le_pow_right (by omega) ?_);simp only[List.length_take];omega
theorem fo {l:List Nat}{k:Nat}(h:l.length<=k):bW l k=val l:=by unfold bW;rw[List.take_of_length_le h]
theorem jq {va vb P x y:Nat}(h1:va<P)(h:x<y):va+P*x<vb+P*y:=by
 have:P*x+P<=P*y:=by rw[<-Nat.mul_succ];exact Nat.mul_le_mul_left _ h
 omega
def row0 (o:List Nat)(m:Nat):List Nat:=o++List.replicate m 0
theorem MN (o:List Nat)(m:Nat):(LL (row0 o (m+1)))[o.length]?=some (.v (.int .u32 0)):=by
 simp[LL,row0,List.getElem?_append_right]
theorem GZ (o:List Nat)(m v:Nat):(LL (row0 o (m+1))).set o.length (.v (.int .u32 (v:Int)))=LL (row0 (o++[v]) m):=by
 simp[LL,row0,List.set_append_right,List.replicate_succ]
theorem qB (o:List Nat)(m:Nat):(LL (row0 o m)).length=o.length+m:=by simp[LL,row0]
theorem ve (m:Nat):LL (row0 [] m)=List.replicate m (.v (.int .u32 0)):=by simp[LL,row0]
theorem D7 (o:List Nat):row0 o 0=o:=by simp[row0]
theorem bI {m n:Nat}(h:m<=n):(enc m).length<=(enc n).length:=by
 induction n using Nat.strongRecOn generalizing m with
 | ind n ih =>
  rw[enc];split
  ·simp
  ·rename_i h0
   conv=>rhs;rw[enc]
   rw[if_neg (by omega)];simp only[List.length_cons];have:=@ih (n / 4294967296) (by omega) (m / 4294967296) (by omega);omega
end Fi
