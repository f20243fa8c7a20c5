import Derived.Test.YtkekcmgkpdkieaaGreatDoorFiE
set_option linter.unusedVariables false
set_option linter.unusedSimpArgs false
namespace Fi
open Go
def Uh:IntKind->IntKind->Bool
 | .i8,.i8 | .i16,.i16 | .i32,.i32 | .i64,.i64 | .u8,.u8 | .u16,.u16 | .u32,.u32 | .u64,.u64=>true
 | _,_=>false
theorem Xa {a b:IntKind}(h:Uh a b=true):a=b:=by cases a<;>cases b<;>first|rfl|cases h
def Jd:Int->Int->Bool
 | .ofNat a,.ofNat b=>Nat.beq a b
 | .negSucc a,.negSucc b=>Nat.beq a b
 | _,_=>false
theorem Xb {a b:Int}(h:Jd a b=true):a=b:=by
 cases a<;>cases b<;>simp only[Jd]at h<;>first|(cases h;done)|(rw[Ql2 h])
def Jf:Value->Value->Bool
 | .int k a,.int k' b=>Uh k k'&&Jd a b
 | .bool a,.bool b=>a==b
 | _,_=>false
theorem Xc {a b:Value}(h:Jf a b=true):a=b:=by
 unfold Jf at h;split at h
 ·simp only[Qb2]at h;rw[Xa h.1,Xb h.2]
 ·rw[eq_of_beq h]
 ·cases h
mutual
def jI:D->D->Bool
 | .v x,.v y=>Jf x y
 | .fn a,.fn b=>Nat.beq a b
 | .n a,.n b=>Nat.beq a b
 | .i,.i=>true
 | .s a xs,.s b ys=>Nat.beq a b&&jv xs ys
 | .a xs,.a ys=>jv xs ys
 | .t xs,.t ys=>jv xs ys
 | _,_=>false
def jv:List D->List D->Bool
 | [],[]=>true
 | x::xs,y::ys=>jI x y&&jv xs ys
 | _,_=>false
end
mutual
theorem mM:∀ {x y:D},jI x y=true->x=y
 | .v x,y,h=>by
  cases y<;>simp only[jI]at h<;>first|(cases h;done)|(rw[Xc h])
 | .fn a,y,h=>by
  cases y<;>simp only[jI]at h<;>first|(cases h;done)|(rw[Ql2 h])
 | .n a,y,h=>by
  cases y<;>simp only[jI]at h<;>first|(cases h;done)|(rw[Ql2 h])
 | .i,y,h=>by
  cases y<;>simp only[jI]at h<;>first|(cases h;done)|rfl
 | .s a xs,y,h=>by
  cases y<;>simp only[jI]at h<;>first|(cases h;done)|skip
  simp only[Qb2]at h;rw[Ql2 h.1,xZ h.2]
 | .a xs,y,h=>by
  cases y<;>simp only[jI]at h<;>first|(cases h;done)|(rw[xZ h])
 | .t xs,y,h=>by
  cases y<;>simp only[jI]at h<;>first|(cases h;done)|(rw[xZ h])
theorem xZ:∀ {xs ys:List D},jv xs ys=true->xs=ys
 | [],ys,h=>by
  cases ys with
  | nil=>rfl
  | cons _ _=>simp only[jv]at h;cases h
 | x::xs,ys,h=>by
  cases ys with
  | nil=>simp only[jv]at h;cases h
  | cons y ys =>
   simp only[jv,Qb2]at h;rw[mM h.1,xZ h.2]
end
def ag4 (r:bG)(x:D):Bool:=match r with
 | some (.d y,none)=>jI y x
 | _=>false
theorem Y4 {r:bG}{x:D}(h:ag4 r x=true):r=some (.d x,none):=by
 unfold ag4 at h;split at h
 ·rw[mM h]
 ·cases h
theorem abH {n:Nat}{f:Nat->Bool}(h:(List.range n).all f=true){i:Nat}(hi:i<n):f i=true:=Qf2.1 h i (Qz0.2 hi)
section
theorem F6 {α:Sort _}(a:α):∃ z,z=a:=⟨a,rfl⟩
noncomputable def qI {α:Sort _} (a:α):α:=Classical.choose (F6 a)
theorem kK {α:Sort _}(a:α):qI a=a:=Classical.choose_spec (F6 a)
noncomputable def EX (E:Env) (n:Nat) (c:aG) (st:St):Option (Out × St):=qI (exec E n c st)
noncomputable def CL (E:Env) (n:Nat) (g:Nat) (args:List FV) (B:List ae):bG:=qI (bW E n g args B)
noncomputable def RU (E:Env) (rec:Nat->List FV->List ae->bG) (ops:List jm) (st:St) (env:List FV):Option (St × List FV):=qI (dQ E rec ops st env)
noncomputable def RK (E:Env) (rec:Nat->List FV->List ae->bG) (draw:Bool) (st:St) (env:List FV) (k:K):Option (FV × St):=qI (runK E rec draw st env k)
noncomputable def qV (op:BinOp) (x y:Value):Option Value:=qI (gN op x y)
noncomputable def ah (k:IntKind) (z:Int):Int:=qI (k.wrap z)
theorem qK (E:Env)(n:Nat)(c:aG)(st:St):EX E n c st=exec E n c st:=kK _
theorem jH (E:Env)(n g:Nat)(args:List FV)(B:List ae):CL E n g args B=bW E n g args B:=kK _
theorem A7 (E:Env)(rec:Nat->List FV->List ae->bG)(ops:List jm)(st:St)(env:List FV):RU E rec ops st env=dQ E rec ops st env:=kK _
theorem dh (E:Env)(rec:Nat->List FV->List ae->bG)(draw:Bool)(st:St)(env:List FV)(k:K):RK E rec draw st env k=runK E rec draw st env k:=kK _
theorem fe (op:BinOp)(x y:Value):qV op x y=gN op x y:=kK _
theorem cK (k:IntKind)(z:Int):ah k z=k.wrap z:=kK _
theorem adU (E:Env)(n:Nat):CL E n=bW E n:=by funext g args B;exact jH E n g args B
section
variable {E:Env} {n:Nat} {st:St}
theorem XD:EX E (n+1) .skip st=some (.norm,st):=by rw[qK];rfl
theorem abe:EX E (n+1) .ret st=some (.ret,st):=by rw[qK];rfl
theorem XE {id:Nat}:EX E (n+1) (.exit id) st=some (.exit id,st):=by rw[qK];rfl
theorem XF {js:List Nat}:EX E (n+1) (.kill js) st=some (.norm,{st with vars:=mG st.vars js}):=by rw[qK];rfl
theorem abf {a b : aG} : EX E (n + 1) (.seq a b) st = match EX E n a st with
      | some (.norm, st') => EX E n b st'
      | r => r := by
 simp only[qK];rfl
theorem XG {x : Arg} {a b : aG} : EX E (n + 1) (.cond x a b) st = match dA E st [] x with
      | some (.d (.v (.bool t))) => EX E n (if t then a else b) st
      | _ => none := by
 simp only[qK];rfl
theorem Si {id : Nat} {b : aG} : EX E (n + 1) (.block id b) st = match EX E n b st with
      | some (.exit id', st') => if id' = id then some (.norm, st') else some (.exit id', st')
      | r => r := by
 simp only[qK];rfl
theorem aC {b : aG} : EX E (n + 1) (.loop b) st = match EX E n b st with
      | some (.norm, st') => EX E n (.loop b) st'
      | r => r := by
 simp only[qK];rfl
theorem Pq {ops:List jm}{outs apart:List (Nat × Nat)}:EX E (n+1) (.region ops outs apart) st =
  if kL st apart then(match RU E (CL E n) ops st [] with
   | some (st',env)=>some (.norm,{st' with vars:=jg st'.vars env outs})
   | none=>none) else none:=by
 simp only[qK,A7,adU];rfl
variable {rec:Nat->List FV->List ae->bG} {env:List FV} {draw:Bool}
theorem Sj:RU E rec [] st env=some (st,env):=by rw[A7];rfl
theorem Ps {o:jm}{rest:List jm}:RU E rec (o::rest) st env=match lI env o.guard with
  | none=>none
  | some false=>RU E rec rest st (env++[.d (.t [])])
  | some true=>match RK E rec o.q st env o.k with
   | none=>none
   | some (v,st')=>RU E rec rest st' (env++[v]):=by
 simp only[A7,dh];rfl
theorem abg {x:Arg}:RK E rec draw st env (.Av x)=match dA E st env x with
  | some v=>some (v,st)
  | none=>none:=by rw[dh];rfl
theorem XH {c a b:Arg}:RK E rec draw st env (.pick c a b)=match dA E st env c with
  | some (.d (.v (.bool t)))=>match dA E st env (if t then a else b) with
   | some v=>some (v,st)
   | none=>none
  | _=>none:=by rw[dh];rfl
theorem abh {op:BinOp}{x y:Arg}:RK E rec draw st env (.bin op x y)=match dA E st env x,dA E st env y with
  | some (.d (.v p)),some (.d (.v q))=>match qV op p q with
   | some v=>some (.d (.v v),st)
   | none=>none
  | _,_=>none:=by simp only[dh,fe];rfl
theorem XI {k:IntKind}{x:Arg}:RK E rec draw st env (.conv k x)=match dA E st env x with
  | some (.d (.v (.int _ n)))=>some (.d (.v (.int k (ah k n))),st)
  | _=>none:=by simp only[dh,cK];rfl
theorem abj {neg:Bool}{x y:Arg}:RK E rec draw st env (.beq neg x y)=runK E rec draw st env (.beq neg x y):=dh ..
theorem abk {neg:Bool}{l:Nat}{x y:Arg}:RK E rec draw st env (.aeq neg l x y)=runK E rec draw st env (.aeq neg l x y):=dh ..
theorem Sk {k:Nat}{neg:Bool}{x:Arg}:RK E rec draw st env (.xJ k neg x)=runK E rec draw st env (.xJ k neg x):=dh ..
theorem aeB {op:UnOp}{x:Arg}:RK E rec draw st env (.un op x)=runK E rec draw st env (.un op x):=dh ..
theorem abl {x:Arg}:RK E rec draw st env (.box x)=runK E rec draw st env (.box x):=dh ..
theorem abm {z:List D}:RK E rec draw st env (.new z)=runK E rec draw st env (.new z):=dh ..
theorem XJ {agg:Bool}{n:Nat}{p:Arg}:RK E rec draw st env (.load agg n p)=runK E rec draw st env (.load agg n p):=dh ..
theorem Sl {n:Nat}{p x:Arg}:RK E rec draw st env (.store n p x)=runK E rec draw st env (.store n p x):=dh ..
theorem Sn {off:Nat}{agg:Bool}{n:Nat}{p:Arg}:RK E rec draw st env (.O8 off agg n p)=runK E rec draw st env (.O8 off agg n p):=dh ..
theorem Sq {off:Nat}{agg:Bool}{n:Nat}{p:Arg}:RK E rec draw st env (.field off agg n p)=runK E rec draw st env (.field off agg n p):=dh ..
theorem Sr {sz:Nat}{x i:Arg}:RK E rec draw st env (.O9 sz x i)=runK E rec draw st env (.O9 sz x i):=dh ..
theorem Su {len sz:Nat}{agg:Bool}{x i:Arg}:RK E rec draw st env (.O_ len sz agg x i)=runK E rec draw st env (.O_ len sz agg x i):=dh ..
theorem Sw {len sz:Nat}{agg:Bool}{x i:Arg}:RK E rec draw st env (.index len sz agg x i)=runK E rec draw st env (.index len sz agg x i):=dh ..
theorem Sy {z:List D}{ps:List (Nat × Nat × Arg)}:RK E rec draw st env (.build z ps)=runK E rec draw st env (.build z ps):=dh ..
theorem abn {sz:Nat}{agg:Bool}{z:List D}{len:Nat}{ps:List (Nat × Arg)}:RK E rec draw st env (.lit sz agg z len ps)=runK E rec draw st env (.lit sz agg z len ps):=dh ..
theorem abo {x:Arg}:RK E rec draw st env (.len x)=runK E rec draw st env (.len x):=dh ..
theorem XK {x y:Arg}:RK E rec draw st env (.maxi x y)=runK E rec draw st env (.maxi x y):=dh ..
theorem XL {x y:Arg}:RK E rec draw st env (.Z0 x y)=runK E rec draw st env (.Z0 x y):=dh ..
theorem abp {sz b:Nat}{x y:Arg}:RK E rec draw st env (.app sz b x y)=runK E rec draw st env (.app sz b x y):=dh ..
theorem Sz {sz:Nat}{x:Arg}{lo hi:Option Arg}:RK E rec draw st env (.slice sz x lo hi)=runK E rec draw st env (.slice sz x lo hi):=dh ..
theorem aeC {sz b:Nat}{agg:Bool}{z:List D}{len cap:Arg}:RK E rec draw st env (.mk sz b agg z len cap)=runK E rec draw st env (.mk sz b agg z len cap):=dh ..
theorem abq {x:Arg}{i:Nat}:RK E rec draw st env (.ext x i)=runK E rec draw st env (.ext x i):=dh ..
theorem abr {g:Nat}{a b:List Arg}:RK E rec draw st env (.clo g a b)=runK E rec draw st env (.clo g a b):=dh ..
theorem SB {g:Nat}{args:List Arg}:RK E rec draw st env (.qJ g args)=runK E rec draw st env (.qJ g args):=dh ..
theorem abu {x:Arg}:RK E rec draw st env (.cap x)=runK E rec draw st env (.cap x):=dh ..
theorem XP {sz b:Nat}{agg:Bool}{z:List D}{x n:Arg}:RK E rec draw st env (.Wz sz b agg z x n)=runK E rec draw st env (.Wz sz b agg z x n):=dh ..
theorem SF:RK E rec draw st env .Kr=runK E rec draw st env .Kr:=dh ..
theorem XN {ok:Bool}{kind:Nat}{z:D}{m k:Arg}:RK E rec draw st env (.WA ok kind z m k)=runK E rec draw st env (.WA ok kind z m k):=dh ..
theorem XO {kind:Nat}{m k x:Arg}:RK E rec draw st env (.Nl kind m k x)=runK E rec draw st env (.Nl kind m k x):=dh ..
theorem EF {x i:Arg}:RK E rec draw st env (.uZ x i)=runK E rec draw st env (.uZ x i):=dh ..
theorem XQ {x:Arg}:RK E rec draw st env (.ZZ x)=runK E rec draw st env (.ZZ x):=dh ..
theorem Pv {x:Arg}{lo hi:Option Arg}:RK E rec draw st env (.Hu x lo hi)=runK E rec draw st env (.Hu x lo hi):=dh ..
theorem XM {g:Nat}{args:List Arg}:RK E rec draw st env (.call g args)=runK E rec draw st env (.call g args):=dh ..
theorem SC {f:Arg}{args ps:List Arg}:RK E rec draw st env (.lS f args ps)=runK E rec draw st env (.lS f args ps):=dh ..
theorem SE {agg:Bool}{n:Nat}{p:Arg}:RK E rec draw st env (.jy agg n p)=runK E rec draw st env (.jy agg n p):=dh ..
theorem Pt {n:Nat}{p x:Arg}{ps:List Arg}:RK E rec draw st env (.iY n p x ps)=runK E rec draw st env (.iY n p x ps):=dh ..
theorem abt {sz:Nat}{agg:Bool}{z:List D}{x:Arg}:RK E rec draw st env (.clr sz agg z x)=runK E rec draw st env (.clr sz agg z x):=dh ..
theorem SA {f:Arg}{args:List Arg}:RK E rec draw st env (.mU f args)=runK E rec draw st env (.mU f args):=dh ..
variable {k k':IntKind} {a b:Int}
theorem aeD:qV .add (.int k a) (.int k b)=some (.int k (ah k (a+b))):=by rw[fe,cK,agP]
theorem aeE:qV .sub (.int k a) (.int k b)=some (.int k (ah k (a-b))):=by rw[fe,cK,agQ]
theorem aeF:qV .mul (.int k a) (.int k b)=some (.int k (ah k (a*b))):=by rw[fe,cK,agR]
theorem aeG:qV .quo (.int k a) (.int k b)=if b=0 then none else some (.int k (ah k (a.tdiv b))):=by rw[fe,cK,agS]
theorem aeH:qV .rem (.int k a) (.int k b)=if b=0 then none else some (.int k (a.tmod b)):=by rw[fe,agT]
theorem ahv:qV .or (.int k a) (.int k b)=some (.int k (Bj k a b)):=by rw[fe,ajr]
theorem aeI:qV .and (.int k a) (.int k b)=some (.int k (nP k a b)):=by rw[fe,agU]
theorem aeJ:qV .xor (.int k a) (.int k b)=some (.int k (adT k a b)):=by rw[fe,agV]
theorem aeK:qV .shl (.int k a) (.int k' b)=if b<0 then none else some (.int k (Lc k a b)):=by rw[fe,agW]
theorem aeL:qV .shr (.int k a) (.int k' b)=if b<0 then none else some (.int k (a.fdiv (2 ^ (min b.toNat k.bits)))):=by rw[fe,agX]
theorem aeM:qV .eql (.int k a) (.int k b)=some (.bool (a==b)):=by rw[fe,agY]
theorem aeN:qV .neq (.int k a) (.int k b)=some (.bool (a != b)):=by rw[fe,agZ]
theorem aeO:qV .lss (.int k a) (.int k b)=some (.bool (decide (a<b))):=by rw[fe,ag0]
theorem aeP:qV .leq (.int k a) (.int k b)=some (.bool (decide (a<=b))):=by rw[fe,ag1]
theorem aeQ:qV .gtr (.int k a) (.int k b)=some (.bool (decide (b<a))):=by rw[fe,ag2]
theorem aeR:qV .geq (.int k a) (.int k b)=some (.bool (decide (b<=a))):=by rw[fe,ag3]
theorem av {g:Nat}{F:ai}{args:List FV}{B:List ae}(hp:E.ja g=none)(hf:E.fn g=some F)(hl:args.length=F.np) :
  CL E n g args B=match EX E n F.body {vars:=args++List.replicate (F.nv-F.np) .u,base:=B,loc:=[],aP:=false} with
    | some (.exit _,_)=>none
    | some (_,st')=>finish F st'
    | none=>none:=by
 rw[jH,qK,GI hp hf hl];rfl
end
theorem rH {E:Env}{n g:Nat}{p:List FV->List ae->bG}{args:List FV}{B:List ae}(hp:E.ja g=none)(hf:E.fn g=none)(hB:E.iF g=some p) :
  CL E n g args B=match p args B with
    | some (v,some B')=>if B.length<=B'.length then some (v,some B') else none
    | r=>r:=by
 rw[jH,NN hp hf hB];rfl
theorem eP {E:Env}{n m g:Nat}{args:List FV}{B:List ae}{x:FV × Option (List ae)}(hx:CL E n g args B=some x)(hm:n<=m):CL E m g args B=some x:=by
 rw[jH]at hx ⊢;exact yH hx hm
theorem Ca.bO {E:Env}{n g:Nat}{args:List FV}{r:FV × Option (List ae)}(h:CL E n g args []=some r):Ca E g args r:=Ca.of (by rw[<-jH];exact h)
theorem Ca.get {E:Env}{g:Nat}{args:List FV}{r:FV × Option (List ae)}(h:Ca E g args r):∃ n0,∀ k,CL E (n0+k) g args []=some r:=by
 obtain⟨n0,h⟩:=h;exact⟨n0,fun k=>by rw[jH];exact h _ omK⟩
theorem Ca.any {E:Env}{g:Nat}{args:List FV}{r:FV × Option (List ae)}(h:Ca E g args r):∃ n0,∀ n,n0<=n->∀ k,CL E (n+k) g args []=some r:=by
 obtain⟨n0,h⟩:=h;exact⟨n0,fun n hn k=>by rw[jH];exact h _ omK⟩
def Any (P:Nat->Prop):Prop:=∃ n0,∀ n,n0<=n->P n
theorem Ca.j {E:Env}{g:Nat}{args:List FV}{r:FV × Option (List ae)}{Q:Nat->Prop}(h:Ca E g args r)(q:Any Q):Any fun n=>(∀ k,CL E (n+k) g args []=some r)/\Q n:=by
 obtain⟨a,h⟩:=h.any;obtain⟨b,q⟩:=q;exact⟨a+b,fun n hn=>⟨h n omK,q n omK⟩⟩
theorem Any.at {P:Nat->Prop}(h:Any P)(c:Nat):∃ K,c<=K/\P K:=by
 obtain⟨a,h⟩:=h;exact⟨a+c,by omega,h _ omK⟩
end
section
def aG.l:aG->aG
 | .seq a _=>a
 | _=>.skip
def aG.r:aG->aG
 | .seq _ b=>b
 | _=>.skip
def aG.bl:aG->aG
 | .block _ b=>b
 | _=>.skip
def aG.lp:aG->aG
 | .loop b=>b
 | _=>.skip
def Ex (E:Env)(c:aG)(st:St)(r:Out × St):Prop:=∃ n0,∀ n,n0<=n->exec E n c st=some r
section
variable {E:Env} {st st1 st2:St}
theorem Ex.of {n:Nat}{c:aG}{r:Out × St}(h:EX E n c st=some r):Ex E c st r:=⟨n,fun _ hm=>F5 (by rw[<-qK];exact h) hm⟩
theorem Ex.next {b:aG}{r:Out × St}(h1:Ex E b st (.norm,st1))(h2:Ex E (.loop b) st1 r):Ex E (.loop b) st r:=by
 obtain⟨n1,h1⟩:=h1;obtain⟨n2,h2⟩:=h2;refine⟨n1+n2+1,fun n hn => ?_⟩;obtain⟨m,rfl⟩:∃ m,n=m+1:=⟨n-1,by omega⟩
 rw[oM,h1 m omK];exact h2 m omK
theorem Ex.out {b:aG}{o:Out}(h1:Ex E b st (o,st1))(ho:o≠.norm):Ex E (.loop b) st (o,st1):=by
 obtain⟨n1,h1⟩:=h1;refine⟨n1+1,fun n hn => ?_⟩;obtain⟨m,rfl⟩:∃ m,n=m+1:=⟨n-1,by omega⟩
 rw[oM,h1 m omK];cases o with
 | norm=>exact absurd rfl ho
 | exit id=>rfl
 | ret=>rfl
theorem Ex.leave {b:aG}{r:Out × St}(h1:Ex E b st r)(ho:r.1≠.norm):Ex E (.loop b) st r:=Ex.out (o:=r.1) (st1:=r.2) h1 ho
theorem Ex.while {α:Type}{b:aG}(S:α->St)(μ:α->Nat)(R:α->Out × St)
  (step:∀ a,(∃ a',Ex E b (S a) (.norm,S a')/\μ a'<μ a/\R a'=R a)\/(Ex E b (S a) (R a)/\(R a).1≠.norm)) :
  ∀ a,Ex E (.loop b) (S a) (R a):=by
 intro a
 induction h:μ a using Nat.strongRecOn generalizing a with
 | ind k ih =>
  rcases step a with ⟨a',h1,h2,h3⟩|⟨h1,h2⟩
  ·have:=ih (μ a') omK a' rfl;rw[h3]at this;exact h1.next this
  ·exact h1.out h2
theorem Ex.inv {α:Type}{b:aG}(S:α->St)(μ:α->Nat)(I:α->Prop)(Q:Out × St->Prop)
  (step:∀ a,I a->(∃ a',Ex E b (S a) (.norm,S a')/\μ a'<μ a/\I a')\/(∃ r,Ex E b (S a) r/\r.1≠.norm/\Q r)) :
  ∀ a,I a->∃ r,Ex E (.loop b) (S a) r/\Q r:=by
 intro a ha
 induction h:μ a using Nat.strongRecOn generalizing a with
 | ind k ih =>
  rcases step a ha with ⟨a',h1,h2,h3⟩|⟨r,h1,h2,h3⟩
  ·obtain⟨r,h4,h5⟩:=ih (μ a') omK a' h3 rfl;exact⟨r,h1.next h4,h5⟩
  ·exact⟨r,h1.leave h2,h3⟩
theorem Ex.seq {a b:aG}{r:Out × St}(h1:Ex E a st (.norm,st1))(h2:Ex E b st1 r):Ex E (.seq a b) st r:=by
 obtain⟨n1,h1⟩:=h1;obtain⟨n2,h2⟩:=h2;refine⟨n1+n2+1,fun n hn => ?_⟩;obtain⟨m,rfl⟩:∃ m,n=m+1:=⟨n-1,by omega⟩
 rw[tJ,h1 m omK];exact h2 m omK
theorem Ex.block {id:Nat}{b:aG}(h1:Ex E b st (.exit id,st1)):Ex E (.block id b) st (.norm,st1):=by
 obtain⟨n1,h1⟩:=h1;refine⟨n1+1,fun n hn => ?_⟩;obtain⟨m,rfl⟩:∃ m,n=m+1:=⟨n-1,by omega⟩
 rw[kJ,h1 m omK];simp
theorem Ex.gm {id:Nat}{b:aG}(h1:Ex E b st (.norm,st1)):Ex E (.block id b) st (.norm,st1):=by
 obtain⟨n1,h1⟩:=h1;refine⟨n1+1,fun n hn => ?_⟩;obtain⟨m,rfl⟩:∃ m,n=m+1:=⟨n-1,by omega⟩
 rw[kJ,h1 m omK]
theorem Ex.b_ {id:Nat}{b:aG}(h1:Ex E b st (.ret,st1)):Ex E (.block id b) st (.ret,st1):=by
 obtain⟨n1,h1⟩:=h1;refine⟨n1+1,fun n hn => ?_⟩;obtain⟨m,rfl⟩:∃ m,n=m+1:=⟨n-1,by omega⟩
 rw[kJ,h1 m omK]
theorem Ex.dG {a b:aG}(h1:Ex E a st (.ret,st1)):Ex E (.seq a b) st (.ret,st1):=by
 obtain⟨n1,h1⟩:=h1;refine⟨n1+1,fun n hn => ?_⟩;obtain⟨m,rfl⟩:∃ m,n=m+1:=⟨n-1,by omega⟩
 rw[tJ,h1 m omK]
theorem Ca.body {g:Nat}{F:ai}{args:List FV}{o:Out}{r:FV × Option (List ae)}(hp:E.ja g=none)(hf:E.fn g=some F)(hl:args.length=F.np)
  (h:Ex E F.body {vars:=args++List.replicate (F.nv-F.np) .u,base:=[],loc:=[],aP:=false} (o,st1)) (ho:∀ id,o≠.exit id) (hr:finish F st1=some r):Ca E g args r:=by
 obtain⟨n0,h⟩:=h;refine⟨n0,fun n hn => ?_⟩;rw[GI hp hf hl,h n hn];cases o with
 | exit id=>exact absurd rfl (ho id)
 | norm=>exact hr
 | ret=>exact hr
end
end
def LL (l:List Nat):List D:=l.map fun(x:Nat)=>D.v (.int .u32 (x:Int))
def LD (l:List Nat):D:=.s 1 (LL l)
def bF (l:List Nat)(i:Nat):Nat:=(l[i]?).getD 0
def val:List Nat->Nat
 | []=>0
 | x::r=>x+4294967296*val r
def bV (l:List Nat):Prop:=∀ x ∈ l,x<4294967296
theorem wrap_u64 {z:Int}(h:0<=z/\z<18446744073709551616):ah .u64 z=z:=by
 rw[cK];simp only[IntKind.wrap,IntKind.bits,IntKind.signed];simp;omega
theorem wrap_i64 {z:Int}(h:-9223372036854775808<=z/\z<9223372036854775808):ah .i64 z=z:=by
 rw[cK];simp only[IntKind.wrap,IntKind.bits,IntKind.signed];simp;split<;>omega
theorem wrap_u32 {z:Int}(h:0<=z/\z<4294967296):ah .u32 z=z:=by
 rw[cK];simp only[IntKind.wrap,IntKind.bits,IntKind.signed];simp;omega
theorem dH (z:Int):ah .u32 z=z % 4294967296:=by
 rw[cK];simp only[IntKind.wrap,IntKind.bits,IntKind.signed];simp
theorem f_ (z:Int):ah .u64 z=z % 18446744073709551616:=by
 rw[cK];simp only[IntKind.wrap,IntKind.bits,IntKind.signed];simp
theorem idx {α:Type}{es:List α}{k:Nat}{v:α}(h:es[k]?=some v)(h2:k<es.length):es[k]=v:=by
 rw[Qa0 h2]at h;exact Qo2 h
def trim:List Nat->List Nat
 | []=>[]
 | x::r=>if trim r=[]/\x=0 then [] else x::trim r
theorem tO:∀ (a:List Nat),trim (a++[0])=trim a
 | []=>by simp[trim]
 | x::r=>by
  rw[Q52,trim,trim,tO r]
theorem tN:∀ (a:List Nat) (x:Nat),x≠0->trim (a++[x])=a++[x]
 | [],x,h=>by simp[trim,h]
 | y::r,x,h=>by
  rw[Q52,trim,tN r x h];simp
theorem KR:∀ (a:List Nat),val (trim a)=val a
 | []=>rfl
 | x::r=>by
  have ih:=KR r;rw[trim];split
  ·rename_i h;rw[h.1]at ih;simp only[val]at ih ⊢;omega
  ·simp only[val];rw[ih]
theorem KS:∀ {a:List Nat},bV a->bV (trim a)
 | [],h=>h
 | x::r,h=>by
  have ih:bV (trim r):=KS (fun y hy=>h y (Qh0 _ hy));rw[trim];split
  ·intro y hy;cases hy
  ·intro y hy;rcases Qi1.1 hy with rfl|hy
   ·exact h _ (Qj1 ..)
   ·exact ih y hy
theorem q9:∀ (a:List Nat),(trim a).length<=a.length
 | []=>Qd1 _
 | x::r=>by
  have:=q9 r;rw[trim];split<;>simp<;>omega
theorem F7:∀ (a:List Nat),trim (trim a)=trim a
 | []=>rfl
 | x::r=>by
  have ih:=F7 r;rw[trim];split
  ·rfl
  ·rename_i h;rw[trim,ih];rw[if_neg h]
theorem val_inj:∀ {a b:List Nat},bV a->bV b->trim a=a->trim b=b->val a=val b->a=b
 | [],[],_,_,_,_,_=>rfl
 | [],y::s,_,hb,_,tb,h=>by
  exfalso;have hv:val (y::s)=0:=h.symm;simp only[val]at hv;have h0:y=0/\val s=0:=by omega
  have hs:bV s:=fun z hz=>hb z (Qh0 _ hz)
  rw[trim]at tb;split at tb
  ·cases tb
  ·rename_i hn;simp only[Xs1,true_and]at tb;have:=val_inj (a:=[]) (b:=s) (fun _ h=>by cases h) hs rfl tb (by simp[val,h0.2]);subst this;exact hn ⟨rfl,h0.1⟩
 | x::r,[],ha,_,ta,_,h=>by
  exfalso;have hv:val (x::r)=0:=h;simp only[val]at hv;have h0:x=0/\val r=0:=by omega
  have hr:bV r:=fun z hz=>ha z (Qh0 _ hz)
  rw[trim]at ta;split at ta
  ·cases ta
  ·rename_i hn;simp only[Xs1,true_and]at ta;have:=val_inj (a:=r) (b:=[]) hr (fun _ h=>by cases h) ta rfl (by simp[val,h0.2]);subst this;exact hn ⟨rfl,h0.1⟩
 | x::r,y::s,ha,hb,ta,tb,h=>by
  simp only[val]at h;have hx:=ha x (Qj1 ..);have hy:=hb y (Qj1 ..);have h0:x=y/\val r=val s:=by omega
  have hr:bV r:=fun z hz=>ha z (Qh0 _ hz)
  have hs:bV s:=fun z hz=>hb z (Qh0 _ hz)
  have tr:trim r=r:=by
   rw[trim]at ta;split at ta
   ·cases ta
   ·simpa using ta
  have ts:trim s=s:=by
   rw[trim]at tb;split at tb
   ·cases tb
   ·simpa using tb
  rw[h0.1,val_inj hr hs tr ts h0.2]
def enc (n:Nat):List Nat:=if n=0 then [] else n % 4294967296::enc (n / 4294967296)
termination_by n
theorem aV (n:Nat):val (enc n)=n:=by
 induction n using Nat.strongRecOn with
 | ind n ih =>
  rw[enc];split
  ·subst_vars;rfl
  ·rename_i h;simp only[val];rw[ih _ omK];omega
theorem aS (n:Nat):bV (enc n):=by
 induction n using Nat.strongRecOn with
 | ind n ih =>
  rw[enc];split
  ·intro x hx;cases hx
  ·intro x hx;rcases Qi1.1 hx with rfl|hx
   ·exact Qv0 _ omK
   ·exact ih _ omK x hx
theorem dV {n:Nat}:enc n=[]↔n=0:=by
 rw[enc];split<;>simp[*]
theorem IL (n:Nat):trim (enc n)=enc n:=by
 induction n using Nat.strongRecOn with
 | ind n ih =>
  rw[enc];split
  ·rfl
  ·rename_i h;rw[trim,ih _ omK,if_neg];rintro⟨h1,h2⟩;rw[dV]at h1;omega
theorem df {a:List Nat}(h:bV a):trim a=enc (val a) :=
 val_inj (KS h) (aS _) (F7 a) (IL _) (by rw[KR,aV])
theorem iZ (l:List Nat)(k:Nat):val (l.drop k)=bF l k+4294967296*val (l.drop (k+1)):=by
 unfold bF
 by_cases h:k<l.length
 ·rw[Qj0 h,Qa0 h];simp[val]
 ·rw[Xo0 omK,Xo0 omK,Qn2 omK];simp[val]
theorem val_append:∀ (o:List Nat) (d:List Nat),val (o++d)=val o+4294967296 ^ o.length*val d
 | [],d=>by simp[val]
 | x::r,d=>by
  rw[Q52,val,val,val_append r d,Qe2,Ql1];grind
theorem iE {l:List Nat}{k:Nat}(h:l.length<=k):val (l.drop k)=0:=by
 rw[Xo0 h];rfl
theorem nN:∀ {l:List Nat},bV l->val l<4294967296 ^ l.length
 | [],_=>by simp[val]
 | x::r,h=>by
  have h1:=nN (l:=r) (fun y hy=>h y (Qh0 _ hy));have h2:=h x (Qj1 ..);rw[val,Qe2,Ql1];generalize 4294967296 ^ r.length=p at*;omega
theorem iD {a b:List Nat}(ha:bV a)(hb:bV b):bV (a++b):=by
 intro x hx;rcases Qw2.1 hx with h|h
 ·exact ha x h
 ·exact hb x h
def bY (l:List Nat)(k:Nat):Nat:=val (l.take k)
theorem dZ (l:List Nat)(k:Nat):bY l (k+1)=bY l k+4294967296 ^ k*bF l k:=by
 unfold bY bF
 by_cases h:k<l.length
 ·rw[Qp2 h,val_append,Qr1,Xm2 omK,Qa0 h];simp[val]
 ·rw[Qg0 omK,Qg0 omK,Qn2 omK];simp
theorem nV {l:List Nat}(h:bV l)(k:Nat):bY l k<4294967296 ^ k:=by
 have h1:bV (l.take k):=fun x hx=>h x (Qp0 hx)
 refine Qk0 (nN h1) (Qt2 omK ?_);simp only[Qr1];omega
theorem fH {l:List Nat}{k:Nat}(h:l.length<=k):bY l k=val l:=by unfold bY;rw[Qg0 h]
theorem jE {va vb P x y:Nat}(h1:va<P)(h:x<y):va+P*x<vb+P*y:=by
 have:P*x+P<=P*y:=by rw[<-Nat.mul_succ];exact Q82 _ h
 omega
def row0 (o:List Nat)(m:Nat):List Nat:=o++List.replicate m 0
theorem NT (o:List Nat)(m:Nat):(LL (row0 o (m+1)))[o.length]?=some (.v (.int .u32 0)):=by
 simp[LL,row0,Qc1]
theorem Ir (o:List Nat)(m v:Nat):(LL (row0 o (m+1))).set o.length (.v (.int .u32 (v:Int)))=LL (row0 (o++[v]) m):=by
 simp[LL,row0,Q40,Xk1]
theorem qY (o:List Nat)(m:Nat):(LL (row0 o m)).length=o.length+m:=by simp[LL,row0]
theorem wz (m:Nat):LL (row0 [] m)=List.replicate m (.v (.int .u32 0)):=by simp[LL,row0]
theorem EI (o:List Nat):row0 o 0=o:=by simp[row0]
theorem bI {m n:Nat}(h:m<=n):(enc m).length<=(enc n).length:=by
 induction n using Nat.strongRecOn generalizing m with
 | ind n ih =>
  rw[enc];split
  ·simp
  ·rename_i h0
   conv=>rhs;rw[enc]
   rw[if_neg omK];simp only[Qe2];have:=@ih (n / 4294967296) omK (m / 4294967296) omK;omega
end Fi
