import Derived.Test.YtbbogkfadofneaaGreatDoorFiE
set_option linter.unusedVariables false
set_option linter.unusedSimpArgs false
namespace Fi
open Go
def T_:IntKind->IntKind->Bool
 | .i8,.i8 | .i16,.i16 | .i32,.i32 | .i64,.i64 | .u8,.u8 | .u16,.u16 | .u32,.u32 | .u64,.u64=>true
 | _,_=>false
theorem Xe {a b:IntKind}(h:T_ a b=true):a=b:=by cases a<;>cases b<;>first|rfl|cases h
def IU:Int->Int->Bool
 | .ofNat a,.ofNat b=>Nat.beq a b
 | .negSucc a,.negSucc b=>Nat.beq a b
 | _,_=>false
theorem Xf {a b:Int}(h:IU a b=true):a=b:=by
 cases a<;>cases b<;>simp only[IU]at h<;>first|(cases h;done)|(rw[Qg2 h])
def IW:Value->Value->Bool
 | .int k a,.int k' b=>T_ k k'&&IU a b
 | .bool a,.bool b=>a==b
 | _,_=>false
theorem Xg {a b:Value}(h:IW a b=true):a=b:=by
 unfold IW at h;split at h
 ·simp only[Qb1]at h;rw[Xe h.1,Xf h.2]
 ·rw[eq_of_beq h]
 ·cases h
mutual
def jd:D->D->Bool
 | .v x,.v y=>IW x y
 | .fn a,.fn b=>Nat.beq a b
 | .n a,.n b=>Nat.beq a b
 | .i,.i=>true
 | .s a xs,.s b ys=>Nat.beq a b&&nE xs ys
 | .a xs,.a ys=>nE xs ys
 | .t xs,.t ys=>nE xs ys
 | _,_=>false
def nE:List D->List D->Bool
 | [],[]=>true
 | x::xs,y::ys=>jd x y&&nE xs ys
 | _,_=>false
end
mutual
theorem jG:∀ {x y:D},jd x y=true->x=y
 | .v x,y,h=>by
  cases y<;>simp only[jd]at h<;>first|(cases h;done)|(rw[Xg h])
 | .fn a,y,h=>by
  cases y<;>simp only[jd]at h<;>first|(cases h;done)|(rw[Qg2 h])
 | .n a,y,h=>by
  cases y<;>simp only[jd]at h<;>first|(cases h;done)|(rw[Qg2 h])
 | .i,y,h=>by
  cases y<;>simp only[jd]at h<;>first|(cases h;done)|rfl
 | .s a xs,y,h=>by
  cases y<;>simp only[jd]at h<;>first|(cases h;done)|skip
  simp only[Qb1]at h;rw[Qg2 h.1,oq h.2]
 | .a xs,y,h=>by
  cases y<;>simp only[jd]at h<;>first|(cases h;done)|(rw[oq h])
 | .t xs,y,h=>by
  cases y<;>simp only[jd]at h<;>first|(cases h;done)|(rw[oq h])
theorem oq:∀ {xs ys:List D},nE xs ys=true->xs=ys
 | [],ys,h=>by
  cases ys with
  | nil=>rfl
  | cons _ _=>simp only[nE]at h;cases h
 | x::xs,ys,h=>by
  cases ys with
  | nil=>simp only[nE]at h;cases h
  | cons y ys =>
   simp only[nE,Qb1]at h;rw[jG h.1,oq h.2]
end
def ag_ (r:bF)(x:D):Bool:=match r with
 | some (.d y,none)=>jd y x
 | _=>false
theorem Y9 {r:bF}{x:D}(h:ag_ r x=true):r=some (.d x,none):=by
 unfold ag_ at h;split at h
 ·rw[jG h]
 ·cases h
theorem abG {n:Nat}{f:Nat->Bool}(h:(List.range n).all f=true){i:Nat}(hi:i<n):f i=true:=Qh2.1 h i (Xu2.2 hi)
section
theorem FZ {α:Sort _}(a:α):∃ z,z=a:=⟨a,rfl⟩
noncomputable def qI {α:Sort _} (a:α):α:=Classical.choose (FZ a)
theorem kI {α:Sort _}(a:α):qI a=a:=Classical.choose_spec (FZ a)
noncomputable def EX (E:Env) (n:Nat) (c:aF) (st:St):Option (Out × St):=qI (exec E n c st)
noncomputable def CL (E:Env) (n:Nat) (g:Nat) (args:List FV) (B:List ah):bF:=qI (cu E n g args B)
noncomputable def RJ (E:Env) (rec:Nat->List FV->List ah->bF) (ops:List jm) (st:St) (env:List FV):Option (St × List FV):=qI (dU E rec ops st env)
noncomputable def RK (E:Env) (rec:Nat->List FV->List ah->bF) (draw:Bool) (st:St) (env:List FV) (k:K):Option (FV × St):=qI (runK E rec draw st env k)
noncomputable def qU (op:BinOp) (x y:Value):Option Value:=qI (gU op x y)
noncomputable def ai (k:IntKind) (z:Int):Int:=qI (k.wrap z)
theorem qK (E:Env)(n:Nat)(c:aF)(st:St):EX E n c st=exec E n c st:=kI _
theorem jy (E:Env)(n g:Nat)(args:List FV)(B:List ah):CL E n g args B=cu E n g args B:=kI _
theorem AP (E:Env)(rec:Nat->List FV->List ah->bF)(ops:List jm)(st:St)(env:List FV):RJ E rec ops st env=dU E rec ops st env:=kI _
theorem dh (E:Env)(rec:Nat->List FV->List ah->bF)(draw:Bool)(st:St)(env:List FV)(k:K):RK E rec draw st env k=runK E rec draw st env k:=kI _
theorem fA (op:BinOp)(x y:Value):qU op x y=gU op x y:=kI _
theorem bS (k:IntKind)(z:Int):ai k z=k.wrap z:=kI _
theorem adZ (E:Env)(n:Nat):CL E n=cu E n:=by funext g args B;exact jy E n g args B
section
variable {E:Env} {n:Nat} {st:St}
theorem XH:EX E (n+1) .skip st=some (.norm,st):=by rw[qK];rfl
theorem abd:EX E (n+1) .ret st=some (.ret,st):=by rw[qK];rfl
theorem XI {id:Nat}:EX E (n+1) (.exit id) st=some (.exit id,st):=by rw[qK];rfl
theorem XJ {js:List Nat}:EX E (n+1) (.kill js) st=some (.norm,{st with vars:=mI st.vars js}):=by rw[qK];rfl
theorem abe {a b : aF} : EX E (n + 1) (.seq a b) st = match EX E n a st with
      | some (.norm, st') => EX E n b st'
      | r => r := by
 simp only[qK];rfl
theorem XK {x : Arg} {a b : aF} : EX E (n + 1) (.cond x a b) st = match di E st [] x with
      | some (.d (.v (.bool t))) => EX E n (if t then a else b) st
      | _ => none := by
 simp only[qK];rfl
theorem R5 {id : Nat} {b : aF} : EX E (n + 1) (.block id b) st = match EX E n b st with
      | some (.exit id', st') => if id' = id then some (.norm, st') else some (.exit id', st')
      | r => r := by
 simp only[qK];rfl
theorem aC {b : aF} : EX E (n + 1) (.loop b) st = match EX E n b st with
      | some (.norm, st') => EX E n (.loop b) st'
      | r => r := by
 simp only[qK];rfl
theorem O4 {ops:List jm}{outs apart:List (Nat × Nat)}:EX E (n+1) (.region ops outs apart) st =
  if kJ st apart then(match RJ E (CL E n) ops st [] with
   | some (st',env)=>some (.norm,{st' with vars:=jk st'.vars env outs})
   | none=>none) else none:=by
 simp only[qK,AP,adZ];rfl
variable {rec:Nat->List FV->List ah->bF} {env:List FV} {draw:Bool}
theorem R6:RJ E rec [] st env=some (st,env):=by rw[AP];rfl
theorem O5 {o:jm}{rest:List jm}:RJ E rec (o::rest) st env=match lJ env o.guard with
  | none=>none
  | some false=>RJ E rec rest st (env++[.d (.t [])])
  | some true=>match RK E rec o.q st env o.k with
   | none=>none
   | some (v,st')=>RJ E rec rest st' (env++[v]):=by
 simp only[AP,dh];rfl
theorem abf {x:Arg}:RK E rec draw st env (.Ak x)=match di E st env x with
  | some v=>some (v,st)
  | none=>none:=by rw[dh];rfl
theorem XL {c a b:Arg}:RK E rec draw st env (.pick c a b)=match di E st env c with
  | some (.d (.v (.bool t)))=>match di E st env (if t then a else b) with
   | some v=>some (v,st)
   | none=>none
  | _=>none:=by rw[dh];rfl
theorem abg {op:BinOp}{x y:Arg}:RK E rec draw st env (.bin op x y)=match di E st env x,di E st env y with
  | some (.d (.v p)),some (.d (.v q))=>match qU op p q with
   | some v=>some (.d (.v v),st)
   | none=>none
  | _,_=>none:=by simp only[dh,fA];rfl
theorem XM {k:IntKind}{x:Arg}:RK E rec draw st env (.conv k x)=match di E st env x with
  | some (.d (.v (.int _ n)))=>some (.d (.v (.int k (ai k n))),st)
  | _=>none:=by simp only[dh,bS];rfl
theorem abh {neg:Bool}{x y:Arg}:RK E rec draw st env (.beq neg x y)=runK E rec draw st env (.beq neg x y):=dh ..
theorem abj {neg:Bool}{l:Nat}{x y:Arg}:RK E rec draw st env (.aeq neg l x y)=runK E rec draw st env (.aeq neg l x y):=dh ..
theorem R7 {k:Nat}{neg:Bool}{x:Arg}:RK E rec draw st env (.xA k neg x)=runK E rec draw st env (.xA k neg x):=dh ..
theorem aeA {op:UnOp}{x:Arg}:RK E rec draw st env (.un op x)=runK E rec draw st env (.un op x):=dh ..
theorem abk {x:Arg}:RK E rec draw st env (.box x)=runK E rec draw st env (.box x):=dh ..
theorem abl {z:List D}:RK E rec draw st env (.new z)=runK E rec draw st env (.new z):=dh ..
theorem XN {agg:Bool}{n:Nat}{p:Arg}:RK E rec draw st env (.load agg n p)=runK E rec draw st env (.load agg n p):=dh ..
theorem R8 {n:Nat}{p x:Arg}:RK E rec draw st env (.store n p x)=runK E rec draw st env (.store n p x):=dh ..
theorem R9 {off:Nat}{agg:Bool}{n:Nat}{p:Arg}:RK E rec draw st env (.Kb off agg n p)=runK E rec draw st env (.Kb off agg n p):=dh ..
theorem R_ {off:Nat}{agg:Bool}{n:Nat}{p:Arg}:RK E rec draw st env (.field off agg n p)=runK E rec draw st env (.field off agg n p):=dh ..
theorem Sa {sz:Nat}{x i:Arg}:RK E rec draw st env (.OT sz x i)=runK E rec draw st env (.OT sz x i):=dh ..
theorem Sb {len sz:Nat}{agg:Bool}{x i:Arg}:RK E rec draw st env (.OU len sz agg x i)=runK E rec draw st env (.OU len sz agg x i):=dh ..
theorem Sc {len sz:Nat}{agg:Bool}{x i:Arg}:RK E rec draw st env (.index len sz agg x i)=runK E rec draw st env (.index len sz agg x i):=dh ..
theorem Sd {z:List D}{ps:List (Nat × Nat × Arg)}:RK E rec draw st env (.build z ps)=runK E rec draw st env (.build z ps):=dh ..
theorem abm {sz:Nat}{agg:Bool}{z:List D}{len:Nat}{ps:List (Nat × Arg)}:RK E rec draw st env (.lit sz agg z len ps)=runK E rec draw st env (.lit sz agg z len ps):=dh ..
theorem abn {x:Arg}:RK E rec draw st env (.len x)=runK E rec draw st env (.len x):=dh ..
theorem XO {x y:Arg}:RK E rec draw st env (.maxi x y)=runK E rec draw st env (.maxi x y):=dh ..
theorem XP {x y:Arg}:RK E rec draw st env (.Z8 x y)=runK E rec draw st env (.Z8 x y):=dh ..
theorem abo {sz b:Nat}{x y:Arg}:RK E rec draw st env (.app sz b x y)=runK E rec draw st env (.app sz b x y):=dh ..
theorem Sg {sz:Nat}{x:Arg}{lo hi:Option Arg}:RK E rec draw st env (.slice sz x lo hi)=runK E rec draw st env (.slice sz x lo hi):=dh ..
theorem aeB {sz b:Nat}{agg:Bool}{z:List D}{len cap:Arg}:RK E rec draw st env (.mk sz b agg z len cap)=runK E rec draw st env (.mk sz b agg z len cap):=dh ..
theorem abp {x:Arg}{i:Nat}:RK E rec draw st env (.ext x i)=runK E rec draw st env (.ext x i):=dh ..
theorem abq {g:Nat}{a b:List Arg}:RK E rec draw st env (.clo g a b)=runK E rec draw st env (.clo g a b):=dh ..
theorem Sj {g:Nat}{args:List Arg}:RK E rec draw st env (.qJ g args)=runK E rec draw st env (.qJ g args):=dh ..
theorem abt {x:Arg}:RK E rec draw st env (.cap x)=runK E rec draw st env (.cap x):=dh ..
theorem XU {sz b:Nat}{agg:Bool}{z:List D}{x n:Arg}:RK E rec draw st env (.Wy sz b agg z x n)=runK E rec draw st env (.Wy sz b agg z x n):=dh ..
theorem Sn:RK E rec draw st env .Kc=runK E rec draw st env .Kc:=dh ..
theorem XR {ok:Bool}{kind:Nat}{z:D}{m k:Arg}:RK E rec draw st env (.Wz ok kind z m k)=runK E rec draw st env (.Wz ok kind z m k):=dh ..
theorem XT {kind:Nat}{m k x:Arg}:RK E rec draw st env (.M4 kind m k x)=runK E rec draw st env (.M4 kind m k x):=dh ..
theorem Eu {x i:Arg}:RK E rec draw st env (.uO x i)=runK E rec draw st env (.uO x i):=dh ..
theorem XV {x:Arg}:RK E rec draw st env (.Z7 x)=runK E rec draw st env (.Z7 x):=dh ..
theorem O7 {x:Arg}{lo hi:Option Arg}:RK E rec draw st env (.G8 x lo hi)=runK E rec draw st env (.G8 x lo hi):=dh ..
theorem XQ {g:Nat}{args:List Arg}:RK E rec draw st env (.call g args)=runK E rec draw st env (.call g args):=dh ..
theorem Sk {f:Arg}{args ps:List Arg}:RK E rec draw st env (.lS f args ps)=runK E rec draw st env (.lS f args ps):=dh ..
theorem Sl {agg:Bool}{n:Nat}{p:Arg}:RK E rec draw st env (.jB agg n p)=runK E rec draw st env (.jB agg n p):=dh ..
theorem O6 {n:Nat}{p x:Arg}{ps:List Arg}:RK E rec draw st env (.ja n p x ps)=runK E rec draw st env (.ja n p x ps):=dh ..
theorem abr {sz:Nat}{agg:Bool}{z:List D}{x:Arg}:RK E rec draw st env (.clr sz agg z x)=runK E rec draw st env (.clr sz agg z x):=dh ..
theorem Si {f:Arg}{args:List Arg}:RK E rec draw st env (.lQ f args)=runK E rec draw st env (.lQ f args):=dh ..
variable {k k':IntKind} {a b:Int}
theorem aeC:qU .add (.int k a) (.int k b)=some (.int k (ai k (a+b))):=by rw[fA,bS,agV]
theorem aeD:qU .sub (.int k a) (.int k b)=some (.int k (ai k (a-b))):=by rw[fA,bS,agW]
theorem aeE:qU .mul (.int k a) (.int k b)=some (.int k (ai k (a*b))):=by rw[fA,bS,agX]
theorem aeF:qU .quo (.int k a) (.int k b)=if b=0 then none else some (.int k (ai k (a.tdiv b))):=by rw[fA,bS,agY]
theorem aeG:qU .rem (.int k a) (.int k b)=if b=0 then none else some (.int k (a.tmod b)):=by rw[fA,agZ]
theorem ahB:qU .or (.int k a) (.int k b)=some (.int k (Ba k a b)):=by rw[fA,ajw]
theorem aeH:qU .and (.int k a) (.int k b)=some (.int k (jH k a b)):=by rw[fA,ag0]
theorem aeI:qU .xor (.int k a) (.int k b)=some (.int k (adY k a b)):=by rw[fA,ag1]
theorem aeJ:qU .shl (.int k a) (.int k' b)=if b<0 then none else some (.int k (KW k a b)):=by rw[fA,ag2]
theorem aeK:qU .shr (.int k a) (.int k' b)=if b<0 then none else some (.int k (a.fdiv (2 ^ (min b.toNat k.bits)))):=by rw[fA,ag3]
theorem aeL:qU .eql (.int k a) (.int k b)=some (.bool (a==b)):=by rw[fA,ag4]
theorem aeM:qU .neq (.int k a) (.int k b)=some (.bool (a != b)):=by rw[fA,ag5]
theorem aeN:qU .lss (.int k a) (.int k b)=some (.bool (decide (a<b))):=by rw[fA,ag6]
theorem aeO:qU .leq (.int k a) (.int k b)=some (.bool (decide (a<=b))):=by rw[fA,ag7]
theorem aeP:qU .gtr (.int k a) (.int k b)=some (.bool (decide (b<a))):=by rw[fA,ag8]
theorem aeQ:qU .geq (.int k a) (.int k b)=some (.bool (decide (b<=a))):=by rw[fA,ag9]
theorem av {g:Nat}{F:bK}{args:List FV}{B:List ah}(hp:E.iV g=none)(hf:E.fn g=some F)(hl:args.length=F.np) :
  CL E n g args B=match EX E n F.body {vars:=args++List.replicate (F.nv-F.np) .u,base:=B,loc:=[],aS:=false} with
    | some (.exit _,_)=>none
    | some (_,st')=>finish F st'
    | none=>none:=by
 rw[jy,qK,AA hp hf hl];rfl
end
theorem rG {E:Env}{n g:Nat}{p:List FV->List ah->bF}{args:List FV}{B:List ah}(hp:E.iV g=none)(hf:E.fn g=none)(hB:E.iH g=some p) :
  CL E n g args B=match p args B with
    | some (v,some B')=>if B.length<=B'.length then some (v,some B') else none
    | r=>r:=by
 rw[jy,Nu hp hf hB];rfl
theorem eT {E:Env}{n m g:Nat}{args:List FV}{B:List ah}{x:FV × Option (List ah)}(hx:CL E n g args B=some x)(hm:n<=m):CL E m g args B=some x:=by
 rw[jy]at hx ⊢;exact yo hx hm
theorem Ca.bP {E:Env}{n g:Nat}{args:List FV}{r:FV × Option (List ah)}(h:CL E n g args []=some r):Ca E g args r:=Ca.of (by rw[<-jy];exact h)
theorem Ca.get {E:Env}{g:Nat}{args:List FV}{r:FV × Option (List ah)}(h:Ca E g args r):∃ n0,∀ k,CL E (n0+k) g args []=some r:=by
 obtain⟨n0,h⟩:=h;exact⟨n0,fun k=>by rw[jy];exact h _ ae⟩
theorem Ca.any {E:Env}{g:Nat}{args:List FV}{r:FV × Option (List ah)}(h:Ca E g args r):∃ n0,∀ n,n0<=n->∀ k,CL E (n+k) g args []=some r:=by
 obtain⟨n0,h⟩:=h;exact⟨n0,fun n hn k=>by rw[jy];exact h _ ae⟩
def Any (P:Nat->Prop):Prop:=∃ n0,∀ n,n0<=n->P n
theorem Ca.j {E:Env}{g:Nat}{args:List FV}{r:FV × Option (List ah)}{Q:Nat->Prop}(h:Ca E g args r)(q:Any Q):Any fun n=>(∀ k,CL E (n+k) g args []=some r)/\Q n:=by
 obtain⟨a,h⟩:=h.any;obtain⟨b,q⟩:=q;exact⟨a+b,fun n hn=>⟨h n ae,q n ae⟩⟩
theorem Any.at {P:Nat->Prop}(h:Any P)(c:Nat):∃ K,c<=K/\P K:=by
 obtain⟨a,h⟩:=h;exact⟨a+c,ae,h _ ae⟩
end
section
def aF.l:aF->aF
 | .seq a _=>a
 | _=>.skip
def aF.r:aF->aF
 | .seq _ b=>b
 | _=>.skip
def aF.bl:aF->aF
 | .block _ b=>b
 | _=>.skip
def aF.lp:aF->aF
 | .loop b=>b
 | _=>.skip
def Ex (E:Env)(c:aF)(st:St)(r:Out × St):Prop:=∃ n0,∀ n,n0<=n->exec E n c st=some r
section
variable {E:Env} {st st1 st2:St}
theorem Ex.of {n:Nat}{c:aF}{r:Out × St}(h:EX E n c st=some r):Ex E c st r:=⟨n,fun _ hm=>FY (by rw[<-qK];exact h) hm⟩
theorem Ex.next {b:aF}{r:Out × St}(h1:Ex E b st (.norm,st1))(h2:Ex E (.loop b) st1 r):Ex E (.loop b) st r:=by
 obtain⟨n1,h1⟩:=h1;obtain⟨n2,h2⟩:=h2;refine⟨n1+n2+1,fun n hn => ?_⟩;obtain⟨m,rfl⟩:∃ m,n=m+1:=⟨n-1,ae⟩
 rw[oV,h1 m ae];exact h2 m ae
theorem Ex.out {b:aF}{o:Out}(h1:Ex E b st (o,st1))(ho:o≠.norm):Ex E (.loop b) st (o,st1):=by
 obtain⟨n1,h1⟩:=h1;refine⟨n1+1,fun n hn => ?_⟩;obtain⟨m,rfl⟩:∃ m,n=m+1:=⟨n-1,ae⟩
 rw[oV,h1 m ae];cases o with
 | norm=>exact absurd rfl ho
 | exit id=>rfl
 | ret=>rfl
theorem Ex.leave {b:aF}{r:Out × St}(h1:Ex E b st r)(ho:r.1≠.norm):Ex E (.loop b) st r:=Ex.out (o:=r.1) (st1:=r.2) h1 ho
theorem Ex.while {α:Type}{b:aF}(S:α->St)(μ:α->Nat)(R:α->Out × St)
  (step:∀ a,(∃ a',Ex E b (S a) (.norm,S a')/\μ a'<μ a/\R a'=R a)\/(Ex E b (S a) (R a)/\(R a).1≠.norm)) :
  ∀ a,Ex E (.loop b) (S a) (R a):=by
 intro a
 induction h:μ a using Nat.strongRecOn generalizing a with
 | ind k ih =>
  rcases step a with ⟨a',h1,h2,h3⟩|⟨h1,h2⟩
  ·have:=ih (μ a') ae a' rfl;rw[h3]at this;exact h1.next this
  ·exact h1.out h2
theorem Ex.inv {α:Type}{b:aF}(S:α->St)(μ:α->Nat)(I:α->Prop)(Q:Out × St->Prop)
  (step:∀ a,I a->(∃ a',Ex E b (S a) (.norm,S a')/\μ a'<μ a/\I a')\/(∃ r,Ex E b (S a) r/\r.1≠.norm/\Q r)) :
  ∀ a,I a->∃ r,Ex E (.loop b) (S a) r/\Q r:=by
 intro a ha
 induction h:μ a using Nat.strongRecOn generalizing a with
 | ind k ih =>
  rcases step a ha with ⟨a',h1,h2,h3⟩|⟨r,h1,h2,h3⟩
  ·obtain⟨r,h4,h5⟩:=ih (μ a') ae a' h3 rfl;exact⟨r,h1.next h4,h5⟩
  ·exact⟨r,h1.leave h2,h3⟩
theorem Ex.seq {a b:aF}{r:Out × St}(h1:Ex E a st (.norm,st1))(h2:Ex E b st1 r):Ex E (.seq a b) st r:=by
 obtain⟨n1,h1⟩:=h1;obtain⟨n2,h2⟩:=h2;refine⟨n1+n2+1,fun n hn => ?_⟩;obtain⟨m,rfl⟩:∃ m,n=m+1:=⟨n-1,ae⟩
 rw[sK,h1 m ae];exact h2 m ae
theorem Ex.block {id:Nat}{b:aF}(h1:Ex E b st (.exit id,st1)):Ex E (.block id b) st (.norm,st1):=by
 obtain⟨n1,h1⟩:=h1;refine⟨n1+1,fun n hn => ?_⟩;obtain⟨m,rfl⟩:∃ m,n=m+1:=⟨n-1,ae⟩
 rw[kH,h1 m ae];simp
theorem Ex.gp {id:Nat}{b:aF}(h1:Ex E b st (.norm,st1)):Ex E (.block id b) st (.norm,st1):=by
 obtain⟨n1,h1⟩:=h1;refine⟨n1+1,fun n hn => ?_⟩;obtain⟨m,rfl⟩:∃ m,n=m+1:=⟨n-1,ae⟩
 rw[kH,h1 m ae]
theorem Ex.dA {id:Nat}{b:aF}(h1:Ex E b st (.ret,st1)):Ex E (.block id b) st (.ret,st1):=by
 obtain⟨n1,h1⟩:=h1;refine⟨n1+1,fun n hn => ?_⟩;obtain⟨m,rfl⟩:∃ m,n=m+1:=⟨n-1,ae⟩
 rw[kH,h1 m ae]
theorem Ex.dX {a b:aF}(h1:Ex E a st (.ret,st1)):Ex E (.seq a b) st (.ret,st1):=by
 obtain⟨n1,h1⟩:=h1;refine⟨n1+1,fun n hn => ?_⟩;obtain⟨m,rfl⟩:∃ m,n=m+1:=⟨n-1,ae⟩
 rw[sK,h1 m ae]
theorem Ca.body {g:Nat}{F:bK}{args:List FV}{o:Out}{r:FV × Option (List ah)}(hp:E.iV g=none)(hf:E.fn g=some F)(hl:args.length=F.np)
  (h:Ex E F.body {vars:=args++List.replicate (F.nv-F.np) .u,base:=[],loc:=[],aS:=false} (o,st1)) (ho:∀ id,o≠.exit id) (hr:finish F st1=some r):Ca E g args r:=by
 obtain⟨n0,h⟩:=h;refine⟨n0,fun n hn => ?_⟩;rw[AA hp hf hl,h n hn];cases o with
 | exit id=>exact absurd rfl (ho id)
 | norm=>exact hr
 | ret=>exact hr
end
end
def LL (l:List Nat):List D:=l.map fun(x:Nat)=>D.v (.int .u32 (x:Int))
def LD (l:List Nat):D:=.s 1 (LL l)
def bE (l:List Nat)(i:Nat):Nat:=(l[i]?).getD 0
def val:List Nat->Nat
 | []=>0
 | x::r=>x+4294967296*val r
def bY (l:List Nat):Prop:=∀ x ∈ l,x<4294967296
theorem wrap_u64 {z:Int}(h:0<=z/\z<18446744073709551616):ai .u64 z=z:=by
 rw[bS];simp only[IntKind.wrap,IntKind.bits,IntKind.signed];simp;omega
theorem wrap_i64 {z:Int}(h:-9223372036854775808<=z/\z<9223372036854775808):ai .i64 z=z:=by
 rw[bS];simp only[IntKind.wrap,IntKind.bits,IntKind.signed];simp;split<;>omega
theorem wrap_u32 {z:Int}(h:0<=z/\z<4294967296):ai .u32 z=z:=by
 rw[bS];simp only[IntKind.wrap,IntKind.bits,IntKind.signed];simp;omega
theorem dJ (z:Int):ai .u32 z=z % 4294967296:=by
 rw[bS];simp only[IntKind.wrap,IntKind.bits,IntKind.signed];simp
theorem gm (z:Int):ai .u64 z=z % 18446744073709551616:=by
 rw[bS];simp only[IntKind.wrap,IntKind.bits,IntKind.signed];simp
theorem idx {α:Type}{es:List α}{k:Nat}{v:α}(h:es[k]?=some v)(h2:k<es.length):es[k]=v:=by
 rw[Qa1 h2]at h;exact Qw1 h
def trim:List Nat->List Nat
 | []=>[]
 | x::r=>if trim r=[]/\x=0 then [] else x::trim r
theorem sQ:∀ (a:List Nat),trim (a++[0])=trim a
 | []=>by simp[trim]
 | x::r=>by
  rw[Xa2,trim,trim,sQ r]
theorem sP:∀ (a:List Nat) (x:Nat),x≠0->trim (a++[x])=a++[x]
 | [],x,h=>by simp[trim,h]
 | y::r,x,h=>by
  rw[Xa2,trim,sP r x h];simp
theorem KE:∀ (a:List Nat),val (trim a)=val a
 | []=>rfl
 | x::r=>by
  have ih:=KE r;rw[trim];split
  ·rename_i h;rw[h.1]at ih;simp only[val]at ih ⊢;omega
  ·simp only[val];rw[ih]
theorem KF:∀ {a:List Nat},bY a->bY (trim a)
 | [],h=>h
 | x::r,h=>by
  have ih:bY (trim r):=KF (fun y hy=>h y (Qf1 _ hy));rw[trim];split
  ·intro y hy;cases hy
  ·intro y hy;rcases Qi2.1 hy with rfl|hy
   ·exact h _ (Qj0 ..)
   ·exact ih y hy
theorem qZ:∀ (a:List Nat),(trim a).length<=a.length
 | []=>Qd1 _
 | x::r=>by
  have:=qZ r;rw[trim];split<;>simp<;>omega
theorem F3:∀ (a:List Nat),trim (trim a)=trim a
 | []=>rfl
 | x::r=>by
  have ih:=F3 r;rw[trim];split
  ·rfl
  ·rename_i h;rw[trim,ih];rw[if_neg h]
theorem val_inj:∀ {a b:List Nat},bY a->bY b->trim a=a->trim b=b->val a=val b->a=b
 | [],[],_,_,_,_,_=>rfl
 | [],y::s,_,hb,_,tb,h=>by
  exfalso;have hv:val (y::s)=0:=h.symm;simp only[val]at hv;have h0:y=0/\val s=0:=ae;have hs:bY s:=fun z hz=>hb z (Qf1 _ hz)
  rw[trim]at tb;split at tb
  ·cases tb
  ·rename_i hn;simp only[Xr2,true_and]at tb;have:=val_inj (a:=[]) (b:=s) (fun _ h=>by cases h) hs rfl tb (by simp[val,h0.2]);subst this;exact hn ⟨rfl,h0.1⟩
 | x::r,[],ha,_,ta,_,h=>by
  exfalso;have hv:val (x::r)=0:=h;simp only[val]at hv;have h0:x=0/\val r=0:=ae;have hr:bY r:=fun z hz=>ha z (Qf1 _ hz)
  rw[trim]at ta;split at ta
  ·cases ta
  ·rename_i hn;simp only[Xr2,true_and]at ta;have:=val_inj (a:=r) (b:=[]) hr (fun _ h=>by cases h) ta rfl (by simp[val,h0.2]);subst this;exact hn ⟨rfl,h0.1⟩
 | x::r,y::s,ha,hb,ta,tb,h=>by
  simp only[val]at h;have hx:=ha x (Qj0 ..);have hy:=hb y (Qj0 ..);have h0:x=y/\val r=val s:=ae;have hr:bY r:=fun z hz=>ha z (Qf1 _ hz)
  have hs:bY s:=fun z hz=>hb z (Qf1 _ hz)
  have tr:trim r=r:=by
   rw[trim]at ta;split at ta
   ·cases ta
   ·simpa using ta
  have ts:trim s=s:=by
   rw[trim]at tb;split at tb
   ·cases tb
   ·simpa using tb
  rw[h0.1,val_inj hr hs tr ts h0.2]
def enc (n:Nat):List Nat:=if n=0 then [] else n % 4294967296::enc (n / 4294967296)
termination_by n
theorem aW (n:Nat):val (enc n)=n:=by
 induction n using Nat.strongRecOn with
 | ind n ih =>
  rw[enc];split
  ·subst_vars;rfl
  ·rename_i h;simp only[val];rw[ih _ ae];omega
theorem aQ (n:Nat):bY (enc n):=by
 induction n using Nat.strongRecOn with
 | ind n ih =>
  rw[enc];split
  ·intro x hx;cases hx
  ·intro x hx;rcases Qi2.1 hx with rfl|hx
   ·exact Qu0 _ ae
   ·exact ih _ ae x hx
theorem d_ {n:Nat}:enc n=[]↔n=0:=by
 rw[enc];split<;>simp[*]
theorem Ir (n:Nat):trim (enc n)=enc n:=by
 induction n using Nat.strongRecOn with
 | ind n ih =>
  rw[enc];split
  ·rfl
  ·rename_i h;rw[trim,ih _ ae,if_neg];rintro⟨h1,h2⟩;rw[d_]at h1;omega
theorem df {a:List Nat}(h:bY a):trim a=enc (val a) :=
 val_inj (KF h) (aQ _) (F3 a) (Ir _) (by rw[KE,aW])
theorem jc (l:List Nat)(k:Nat):val (l.drop k)=bE l k+4294967296*val (l.drop (k+1)):=by
 unfold bE
 by_cases h:k<l.length
 ·rw[Qk1 h,Qa1 h];simp[val]
 ·rw[Xm2 ae,Xm2 ae,Qn2 ae];simp[val]
theorem val_append:∀ (o:List Nat) (d:List Nat),val (o++d)=val o+4294967296 ^ o.length*val d
 | [],d=>by simp[val]
 | x::r,d=>by
  rw[Xa2,val,val,val_append r d,Qg0,Qm1];grind
theorem iG {l:List Nat}{k:Nat}(h:l.length<=k):val (l.drop k)=0:=by
 rw[Xm2 h];rfl
theorem nT:∀ {l:List Nat},bY l->val l<4294967296 ^ l.length
 | [],_=>by simp[val]
 | x::r,h=>by
  have h1:=nT (l:=r) (fun y hy=>h y (Qf1 _ hy));have h2:=h x (Qj0 ..);rw[val,Qg0,Qm1];generalize 4294967296 ^ r.length=p at*;omega
theorem iF {a b:List Nat}(ha:bY a)(hb:bY b):bY (a++b):=by
 intro x hx;rcases Qv0.1 hx with h|h
 ·exact ha x h
 ·exact hb x h
def b_ (l:List Nat)(k:Nat):Nat:=val (l.take k)
theorem eF (l:List Nat)(k:Nat):b_ l (k+1)=b_ l k+4294967296 ^ k*bE l k:=by
 unfold b_ bE
 by_cases h:k<l.length
 ·rw[Qj1 h,val_append,Qr0,Xr1 ae,Qa1 h];simp[val]
 ·rw[Qe1 ae,Qe1 ae,Qn2 ae];simp
theorem om {l:List Nat}(h:bY l)(k:Nat):b_ l k<4294967296 ^ k:=by
 have h1:bY (l.take k):=fun x hx=>h x (Qn1 hx)
 refine Qk0 (nT h1) (Qt0 ae ?_);simp only[Qr0];omega
theorem fM {l:List Nat}{k:Nat}(h:l.length<=k):b_ l k=val l:=by unfold b_;rw[Qe1 h]
theorem jF {va vb P x y:Nat}(h1:va<P)(h:x<y):va+P*x<vb+P*y:=by
 have:P*x+P<=P*y:=by rw[<-Nat.mul_succ];exact Qy0 _ h
 omega
def row0 (o:List Nat)(m:Nat):List Nat:=o++List.replicate m 0
theorem NC (o:List Nat)(m:Nat):(LL (row0 o (m+1)))[o.length]?=some (.v (.int .u32 0)):=by
 simp[LL,row0,Qc0]
theorem H_ (o:List Nat)(m v:Nat):(LL (row0 o (m+1))).set o.length (.v (.int .u32 (v:Int)))=LL (row0 (o++[v]) m):=by
 simp[LL,row0,Q30,Xg0]
theorem qW (o:List Nat)(m:Nat):(LL (row0 o m)).length=o.length+m:=by simp[LL,row0]
theorem vV (m:Nat):LL (row0 [] m)=List.replicate m (.v (.int .u32 0)):=by simp[LL,row0]
theorem Ey (o:List Nat):row0 o 0=o:=by simp[row0]
theorem bI {m n:Nat}(h:m<=n):(enc m).length<=(enc n).length:=by
 induction n using Nat.strongRecOn generalizing m with
 | ind n ih =>
  rw[enc];split
  ·simp
  ·rename_i h0
   conv=>rhs;rw[enc]
   rw[if_neg ae];simp only[Qg0];have:=@ih (n / 4294967296) ae (m / 4294967296) ae;omega
abbrev vI (n : Int) : D := .v (.int .i64 n)
abbrev vB (b : Bool) : D := .v (.bool b)
abbrev dI (n : Int) : FV := .d (.v (.int .i64 n))
abbrev dB (b : Bool) : FV := .d (.v (.bool b))
abbrev rL (i : Nat) : FV := .r (.loc i) 0
theorem nx {E : Env} {c : aF} {s t : St} (_ : Ex E c s (.norm, t)) (d : aF) (u : St) (h : Ex E d t (.norm, u)) : Ex E d t (.norm, u) := h
theorem e6 {E : Env} {c : aF} {s : St} {r : Out × St} (h : EX E 60 c s = some r) : Ex E c s r := Ex.of h
theorem wI {x : Int} (h : -9223372036854775808 <= x /\ x < 9223372036854775808 := by omega) : ai .i64 x = x := wrap_i64 h
abbrev u3K : List FV := [.u,.u,.u]
abbrev vR : List FV := [.u,.u,.u,.u]
abbrev lI : List FV := [.u,.u,.u,.u,.u]
abbrev qO : List FV := [.u,.u,.u,.u,.u,.u]
abbrev sO : List FV := [.u,.u,.u,.u,.u,.u,.u]
abbrev zZ : List FV := [.u,.u,.u,.u,.u,.u,.u,.u]
abbrev NB : List FV := [.u,.u,.u,.u,.u,.u,.u,.u,.u]
abbrev qP : List FV := [.u,.u,.u,.u,.u,.u,.u,.u,.u,.u]
abbrev KQ : List FV := [.u,.u,.u,.u,.u,.u,.u,.u,.u,.u,.u]
abbrev D5 : List FV := [.u,.u,.u,.u,.u,.u,.u,.u,.u,.u,.u,.u]
abbrev F5 : List FV := [.u,.u,.u,.u,.u,.u,.u,.u,.u,.u,.u,.u,.u]
abbrev O3 : List FV := [.u,.u,.u,.u,.u,.u,.u,.u,.u,.u,.u,.u,.u,.u]

end Fi
