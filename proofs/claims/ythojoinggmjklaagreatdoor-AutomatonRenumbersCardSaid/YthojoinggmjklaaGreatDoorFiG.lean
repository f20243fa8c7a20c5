import Derived.Test.YthojoinggmjklaaGreatDoorFiE
set_option linter.unusedVariables false
set_option linter.unusedSimpArgs false
namespace Fi
open Go
def Qb:IntKind->IntKind->Bool
 | .i8,.i8 | .i16,.i16 | .i32,.i32 | .i64,.i64 | .u8,.u8 | .u16,.u16 | .u32,.u32 | .u64,.u64=>true
 | _,_=>false
theorem SH {a b:IntKind}(h:Qb a b=true):a=b:=by cases a<;>cases b<;>first|rfl|cases h
def F4:Int->Int->Bool
 | .ofNat a,.ofNat b=>Nat.beq a b
 | .negSucc a,.negSucc b=>Nat.beq a b
 | _,_=>false
theorem SI {a b:Int}(h:F4 a b=true):a=b:=by
 cases a<;>cases b<;>simp only[F4]at h<;>first|(cases h;done)|(rw[Nat.eq_of_beq_eq_true h])
def F6:Value->Value->Bool
 | .int k a,.int k' b=>Qb k k'&&F4 a b
 | .bool a,.bool b=>a==b
 | _,_=>false
theorem SK {a b:Value}(h:F6 a b=true):a=b:=by
 unfold F6 at h;split at h
 ·simp only[Bool.and_eq_true]at h;rw[SH h.1,SI h.2]
 ·rw[eq_of_beq h]
 ·cases h
mutual
def jk:D->D->Bool
 | .v x,.v y=>F6 x y
 | .fn a,.fn b=>Nat.beq a b
 | .n a,.n b=>Nat.beq a b
 | .i,.i=>true
 | .s a xs,.s b ys=>Nat.beq a b&&dE xs ys
 | .a xs,.a ys=>dE xs ys
 | .t xs,.t ys=>dE xs ys
 | _,_=>false
def dE:List D->List D->Bool
 | [],[]=>true
 | x::xs,y::ys=>jk x y&&dE xs ys
 | _,_=>false
end
mutual
theorem zU:∀ {x y:D},jk x y=true->x=y
 | .v x,y,h=>by
  cases y<;>simp only[jk]at h<;>first|(cases h;done)|(rw[SK h])
 | .fn a,y,h=>by
  cases y<;>simp only[jk]at h<;>first|(cases h;done)|(rw[Nat.eq_of_beq_eq_true h])
 | .n a,y,h=>by
  cases y<;>simp only[jk]at h<;>first|(cases h;done)|(rw[Nat.eq_of_beq_eq_true h])
 | .i,y,h=>by
  cases y<;>simp only[jk]at h<;>first|(cases h;done)|rfl
 | .s a xs,y,h=>by
  cases y<;>simp only[jk]at h<;>first|(cases h;done)|skip
  simp only[Bool.and_eq_true]at h;rw[Nat.eq_of_beq_eq_true h.1,vL h.2]
 | .a xs,y,h=>by
  cases y<;>simp only[jk]at h<;>first|(cases h;done)|(rw[vL h])
 | .t xs,y,h=>by
  cases y<;>simp only[jk]at h<;>first|(cases h;done)|(rw[vL h])
theorem vL:∀ {xs ys:List D},dE xs ys=true->xs=ys
 | [],ys,h=>by
  cases ys with
  | nil=>rfl
  | cons _ _=>simp only[dE]at h;cases h
 | x::xs,ys,h=>by
  cases ys with
  | nil=>simp only[dE]at h;cases h
  | cons y ys =>
   simp only[dE,Bool.and_eq_true]at h;rw[zU h.1,vL h.2]
end
theorem X0 {n:Nat}{f:Nat->Bool}(h:(List.range n).all f=true){i:Nat}(hi:i<n):f i=true:=List.all_eq_true.1 h i (List.mem_range.2 hi)
section
theorem Dr {α:Sort _}(a:α):∃ z,z=a:=⟨a,rfl⟩
noncomputable def oI {α:Sort _} (a:α):α:=Classical.choose (Dr a)
theorem jL {α:Sort _}(a:α):oI a=a:=Classical.choose_spec (Dr a)
noncomputable def EX (E:Env) (n:Nat) (c:aD) (st:St):Option (Out × St):=oI (exec E n c st)
noncomputable def CL (E:Env) (n:Nat) (g:Nat) (args:List FV) (B:List ae):bA:=oI (cK E n g args B)
noncomputable def NV (E:Env) (rec:Nat->List FV->List ae->bA) (ops:List iG) (st:St) (env:List FV):Option (St × List FV):=oI (dz E rec ops st env)
noncomputable def RK (E:Env) (rec:Nat->List FV->List ae->bA) (draw:Bool) (st:St) (env:List FV) (k:K):Option (FV × St):=oI (runK E rec draw st env k)
noncomputable def oV (op:BinOp) (x y:Value):Option Value:=oI (fI op x y)
noncomputable def ak (k:IntKind) (z:Int):Int:=oI (k.wrap z)
theorem oK (E:Env)(n:Nat)(c:aD)(st:St):EX E n c st=exec E n c st:=jL _
theorem iV (E:Env)(n g:Nat)(args:List FV)(B:List ae):CL E n g args B=cK E n g args B:=jL _
theorem yM (E:Env)(rec:Nat->List FV->List ae->bA)(ops:List iG)(st:St)(env:List FV):NV E rec ops st env=dz E rec ops st env:=jL _
theorem bT (E:Env)(rec:Nat->List FV->List ae->bA)(draw:Bool)(st:St)(env:List FV)(k:K):RK E rec draw st env k=runK E rec draw st env k:=jL _
theorem dZ (op:BinOp)(x y:Value):oV op x y=fI op x y:=jL _
theorem bV (k:IntKind)(z:Int):ak k z=k.wrap z:=jL _
theorem aad (E:Env)(n:Nat):CL E n=cK E n:=by funext g args B;exact iV E n g args B
section
variable {E:Env} {n:Nat} {st:St}
theorem Ty:EX E (n+1) .skip st=some (.norm,st):=by rw[oK];rfl
theorem Xy:EX E (n+1) .ret st=some (.ret,st):=by rw[oK];rfl
theorem Tz {id:Nat}:EX E (n+1) (.exit id) st=some (.exit id,st):=by rw[oK];rfl
theorem TB {js:List Nat}:EX E (n+1) (.kill js) st=some (.norm,{st with vars:=kY st.vars js}):=by rw[oK];rfl
theorem Xz {a b : aD} : EX E (n + 1) (.seq a b) st = match EX E n a st with
      | some (.norm, st') => EX E n b st'
      | r => r := by
 simp only[oK];rfl
theorem TC {x : Arg} {a b : aD} : EX E (n + 1) (.cond x a b) st = match cu E st [] x with
      | some (.d (.v (.bool t))) => EX E n (if t then a else b) st
      | _ => none := by
 simp only[oK];rfl
theorem Ol {id : Nat} {b : aD} : EX E (n + 1) (.block id b) st = match EX E n b st with
      | some (.exit id', st') => if id' = id then some (.norm, st') else some (.exit id', st')
      | r => r := by
 simp only[oK];rfl
theorem aG {b : aD} : EX E (n + 1) (.loop b) st = match EX E n b st with
      | some (.norm, st') => EX E n (.loop b) st'
      | r => r := by
 simp only[oK];rfl
theorem Lc {ops:List iG}{outs apart:List (Nat × Nat)}:EX E (n+1) (.region ops outs apart) st =
  if jM st apart then(match NV E (CL E n) ops st [] with
   | some (st',env)=>some (.norm,{st' with vars:=iA st'.vars env outs})
   | none=>none) else none:=by
 simp only[oK,yM,aad];rfl
variable {rec:Nat->List FV->List ae->bA} {env:List FV} {draw:Bool}
theorem Om:NV E rec [] st env=some (st,env):=by rw[yM];rfl
theorem Ld {o:iG}{rest:List iG}:NV E rec (o::rest) st env=match kr env o.guard with
  | none=>none
  | some false=>NV E rec rest st (env++[.d (.t [])])
  | some true=>match RK E rec o.q st env o.k with
   | none=>none
   | some (v,st')=>NV E rec rest st' (env++[v]):=by
 simp only[yM,bT];rfl
theorem XA {x:Arg}:RK E rec draw st env (.yz x)=match cu E st env x with
  | some v=>some (v,st)
  | none=>none:=by rw[bT];rfl
theorem TD {c a b:Arg}:RK E rec draw st env (.pick c a b)=match cu E st env c with
  | some (.d (.v (.bool t)))=>match cu E st env (if t then a else b) with
   | some v=>some (v,st)
   | none=>none
  | _=>none:=by rw[bT];rfl
theorem XB {op:BinOp}{x y:Arg}:RK E rec draw st env (.bin op x y)=match cu E st env x,cu E st env y with
  | some (.d (.v p)),some (.d (.v q))=>match oV op p q with
   | some v=>some (.d (.v v),st)
   | none=>none
  | _,_=>none:=by simp only[bT,dZ];rfl
theorem TE {k:IntKind}{x:Arg}:RK E rec draw st env (.conv k x)=match cu E st env x with
  | some (.d (.v (.int _ n)))=>some (.d (.v (.int k (ak k n))),st)
  | _=>none:=by simp only[bT,bV];rfl
theorem XC {neg:Bool}{x y:Arg}:RK E rec draw st env (.beq neg x y)=runK E rec draw st env (.beq neg x y):=bT ..
theorem XD {neg:Bool}{l:Nat}{x y:Arg}:RK E rec draw st env (.Xh neg l x y)=runK E rec draw st env (.Xh neg l x y):=bT ..
theorem Oo {k:Nat}{neg:Bool}{x:Arg}:RK E rec draw st env (.u7 k neg x)=runK E rec draw st env (.u7 k neg x):=bT ..
theorem aaN {op:UnOp}{x:Arg}:RK E rec draw st env (.un op x)=runK E rec draw st env (.un op x):=bT ..
theorem XE {x:Arg}:RK E rec draw st env (.box x)=runK E rec draw st env (.box x):=bT ..
theorem XF {z:List D}:RK E rec draw st env (.new z)=runK E rec draw st env (.new z):=bT ..
theorem TG {agg:Bool}{n:Nat}{p:Arg}:RK E rec draw st env (.load agg n p)=runK E rec draw st env (.load agg n p):=bT ..
theorem Oq {n:Nat}{p x:Arg}:RK E rec draw st env (.store n p x)=runK E rec draw st env (.store n p x):=bT ..
theorem Ot {off:Nat}{agg:Bool}{n:Nat}{p:Arg}:RK E rec draw st env (.KZ off agg n p)=runK E rec draw st env (.KZ off agg n p):=bT ..
theorem Ou {off:Nat}{agg:Bool}{n:Nat}{p:Arg}:RK E rec draw st env (.field off agg n p)=runK E rec draw st env (.field off agg n p):=bT ..
theorem Ov {sz:Nat}{x i:Arg}:RK E rec draw st env (.K3 sz x i)=runK E rec draw st env (.K3 sz x i):=bT ..
theorem Ow {len sz:Nat}{agg:Bool}{x i:Arg}:RK E rec draw st env (.K4 len sz agg x i)=runK E rec draw st env (.K4 len sz agg x i):=bT ..
theorem Ox {len sz:Nat}{agg:Bool}{x i:Arg}:RK E rec draw st env (.index len sz agg x i)=runK E rec draw st env (.index len sz agg x i):=bT ..
theorem Oy {z:List D}{ps:List (Nat × Nat × Arg)}:RK E rec draw st env (.build z ps)=runK E rec draw st env (.build z ps):=bT ..
theorem XG {sz:Nat}{agg:Bool}{z:List D}{len:Nat}{ps:List (Nat × Arg)}:RK E rec draw st env (.lit sz agg z len ps)=runK E rec draw st env (.lit sz agg z len ps):=bT ..
theorem XH {x:Arg}:RK E rec draw st env (.len x)=runK E rec draw st env (.len x):=bT ..
theorem TH {x y:Arg}:RK E rec draw st env (.maxi x y)=runK E rec draw st env (.maxi x y):=bT ..
theorem TI {x y:Arg}:RK E rec draw st env (.V3 x y)=runK E rec draw st env (.V3 x y):=bT ..
theorem XI {sz b:Nat}{x y:Arg}:RK E rec draw st env (.app sz b x y)=runK E rec draw st env (.app sz b x y):=bT ..
theorem Oz {sz:Nat}{x:Arg}{lo hi:Option Arg}:RK E rec draw st env (.slice sz x lo hi)=runK E rec draw st env (.slice sz x lo hi):=bT ..
theorem aaO {sz b:Nat}{agg:Bool}{z:List D}{len cap:Arg}:RK E rec draw st env (.mk sz b agg z len cap)=runK E rec draw st env (.mk sz b agg z len cap):=bT ..
theorem XJ {x:Arg}{i:Nat}:RK E rec draw st env (.ext x i)=runK E rec draw st env (.ext x i):=bT ..
theorem XK {g:Nat}{a b:List Arg}:RK E rec draw st env (.clo g a b)=runK E rec draw st env (.clo g a b):=bT ..
theorem OB {g:Nat}{args:List Arg}:RK E rec draw st env (.oJ g args)=runK E rec draw st env (.oJ g args):=bT ..
theorem XM {x:Arg}:RK E rec draw st env (.cap x)=runK E rec draw st env (.cap x):=bT ..
theorem TM {sz b:Nat}{agg:Bool}{z:List D}{x n:Arg}:RK E rec draw st env (.R7 sz b agg z x n)=runK E rec draw st env (.R7 sz b agg z x n):=bT ..
theorem OE:RK E rec draw st env .GU=runK E rec draw st env .GU:=bT ..
theorem TK {ok:Bool}{kind:Nat}{z:D}{m k:Arg}:RK E rec draw st env (.R8 ok kind z m k)=runK E rec draw st env (.R8 ok kind z m k):=bT ..
theorem TL {kind:Nat}{m k x:Arg}:RK E rec draw st env (.JE kind m k x)=runK E rec draw st env (.JE kind m k x):=bT ..
theorem BR {x i:Arg}:RK E rec draw st env (.rZ x i)=runK E rec draw st env (.rZ x i):=bT ..
theorem TN {x:Arg}:RK E rec draw st env (.VZ x)=runK E rec draw st env (.VZ x):=bT ..
theorem Lg {x:Arg}{lo hi:Option Arg}:RK E rec draw st env (.Ez x lo hi)=runK E rec draw st env (.Ez x lo hi):=bT ..
theorem TJ {g:Nat}{args:List Arg}:RK E rec draw st env (.call g args)=runK E rec draw st env (.call g args):=bT ..
theorem OC {f:Arg}{args ps:List Arg}:RK E rec draw st env (.kF f args ps)=runK E rec draw st env (.kF f args ps):=bT ..
theorem OD {agg:Bool}{n:Nat}{p:Arg}:RK E rec draw st env (.iL agg n p)=runK E rec draw st env (.iL agg n p):=bT ..
theorem Lf {n:Nat}{p x:Arg}{ps:List Arg}:RK E rec draw st env (.g_ n p x ps)=runK E rec draw st env (.g_ n p x ps):=bT ..
theorem XL {sz:Nat}{agg:Bool}{z:List D}{x:Arg}:RK E rec draw st env (.ZI sz agg z x)=runK E rec draw st env (.ZI sz agg z x):=bT ..
theorem OA {f:Arg}{args:List Arg}:RK E rec draw st env (.lK f args)=runK E rec draw st env (.lK f args):=bT ..
variable {k k':IntKind} {a b:Int}
theorem aaP:oV .add (.int k a) (.int k b)=some (.int k (ak k (a+b))):=by rw[dZ,bV,ade]
theorem aaQ:oV .sub (.int k a) (.int k b)=some (.int k (ak k (a-b))):=by rw[dZ,bV,adf]
theorem aaR:oV .mul (.int k a) (.int k b)=some (.int k (ak k (a*b))):=by rw[dZ,bV,adg]
theorem aaS:oV .quo (.int k a) (.int k b)=if b=0 then none else some (.int k (ak k (a.tdiv b))):=by rw[dZ,bV,adh]
theorem aaT:oV .rem (.int k a) (.int k b)=if b=0 then none else some (.int k (a.tmod b)):=by rw[dZ,adi]
theorem ad1:oV .or (.int k a) (.int k b)=some (.int k (Fe k a b)):=by rw[dZ,ae_]
theorem aaU:oV .and (.int k a) (.int k b)=some (.int k (DW k a b)):=by rw[dZ,adj]
theorem aaV:oV .xor (.int k a) (.int k b)=some (.int k (aac k a b)):=by rw[dZ,adk]
theorem aaW:oV .shl (.int k a) (.int k' b)=if b<0 then none else some (.int k (Ib k a b)):=by rw[dZ,adl]
theorem aaX:oV .shr (.int k a) (.int k' b)=if b<0 then none else some (.int k (a.fdiv (2 ^ (min b.toNat k.bits)))):=by rw[dZ,adm]
theorem aaY:oV .eql (.int k a) (.int k b)=some (.bool (a==b)):=by rw[dZ,adn]
theorem aaZ:oV .neq (.int k a) (.int k b)=some (.bool (a != b)):=by rw[dZ,ado]
theorem aa0:oV .lss (.int k a) (.int k b)=some (.bool (decide (a<b))):=by rw[dZ,adp]
theorem aa1:oV .leq (.int k a) (.int k b)=some (.bool (decide (a<=b))):=by rw[dZ,adq]
theorem aa2:oV .gtr (.int k a) (.int k b)=some (.bool (decide (b<a))):=by rw[dZ,adr]
theorem aa3:oV .geq (.int k a) (.int k b)=some (.bool (decide (b<=a))):=by rw[dZ,ads]
theorem aA {g:Nat}{F:ai}{args:List FV}{B:List ae}(hp:E.iF g=none)(hf:E.fn g=some F)(hl:args.length=F.np) :
  CL E n g args B=match EX E n F.body {vars:=args++List.replicate (F.nv-F.np) .u,base:=B,loc:=[],aO:=false} with
    | some (.exit _,_)=>none
    | some (_,st')=>finish F st'
    | none=>none:=by
 rw[iV,oK,Ed hp hf hl];rfl
end
theorem pQ {E:Env}{n g:Nat}{p:List FV->List ae->bA}{args:List FV}{B:List ae}(hp:E.iF g=none)(hf:E.fn g=none)(hB:E.gU g=some p) :
  CL E n g args B=match p args B with
    | some (v,some B')=>if B.length<=B'.length then some (v,some B') else none
    | r=>r:=by
 rw[iV,J5 hp hf hB];rfl
theorem dM {E:Env}{n m g:Nat}{args:List FV}{B:List ae}{x:FV × Option (List ae)}(hx:CL E n g args B=some x)(hm:n<=m):CL E m g args B=some x:=by
 rw[iV]at hx ⊢;exact wo hx hm
theorem Ca.bO {E:Env}{n g:Nat}{args:List FV}{r:FV × Option (List ae)}(h:CL E n g args []=some r):Ca E g args r:=Ca.of (by rw[<-iV];exact h)
theorem Ca.get {E:Env}{g:Nat}{args:List FV}{r:FV × Option (List ae)}(h:Ca E g args r):∃ n0,∀ k,CL E (n0+k) g args []=some r:=by
 obtain⟨n0,h⟩:=h;exact⟨n0,fun k=>by rw[iV];exact h _ (by omega)⟩
theorem Ca.any {E:Env}{g:Nat}{args:List FV}{r:FV × Option (List ae)}(h:Ca E g args r):∃ n0,∀ n,n0<=n->∀ k,CL E (n+k) g args []=some r:=by
 obtain⟨n0,h⟩:=h;exact⟨n0,fun n hn k=>by rw[iV];exact h _ (by omega)⟩
def Any (P:Nat->Prop):Prop:=∃ n0,∀ n,n0<=n->P n
theorem Ca.j {E:Env}{g:Nat}{args:List FV}{r:FV × Option (List ae)}{Q:Nat->Prop}(h:Ca E g args r)(q:Any Q):Any fun n=>(∀ k,CL E (n+k) g args []=some r)/\Q n:=by
 obtain⟨a,h⟩:=h.any;obtain⟨b,q⟩:=q;exact⟨a+b,fun n hn=>⟨h n (by omega),q n (by omega)⟩⟩
theorem Any.at {P:Nat->Prop}(h:Any P)(c:Nat):∃ K,c<=K/\P K:=by
 obtain⟨a,h⟩:=h;exact⟨a+c,by omega,h _ (by omega)⟩
end
section
def aD.l:aD->aD
 | .seq a _=>a
 | _=>.skip
def aD.r:aD->aD
 | .seq _ b=>b
 | _=>.skip
def aD.bl:aD->aD
 | .block _ b=>b
 | _=>.skip
def aD.lp:aD->aD
 | .loop b=>b
 | _=>.skip
def Ex (E:Env)(c:aD)(st:St)(r:Out × St):Prop:=∃ n0,∀ n,n0<=n->exec E n c st=some r
section
variable {E:Env} {st st1 st2:St}
theorem Ex.of {n:Nat}{c:aD}{r:Out × St}(h:EX E n c st=some r):Ex E c st r:=⟨n,fun _ hm=>Dq (by rw[<-oK];exact h) hm⟩
theorem Ex.next {b:aD}{r:Out × St}(h1:Ex E b st (.norm,st1))(h2:Ex E (.loop b) st1 r):Ex E (.loop b) st r:=by
 obtain⟨n1,h1⟩:=h1;obtain⟨n2,h2⟩:=h2;refine⟨n1+n2+1,fun n hn => ?_⟩;obtain⟨m,rfl⟩:∃ m,n=m+1:=⟨n-1,by omega⟩
 rw[rA,h1 m (by omega)];exact h2 m (by omega)
theorem Ex.out {b:aD}{o:Out}(h1:Ex E b st (o,st1))(ho:o≠.norm):Ex E (.loop b) st (o,st1):=by
 obtain⟨n1,h1⟩:=h1;refine⟨n1+1,fun n hn => ?_⟩;obtain⟨m,rfl⟩:∃ m,n=m+1:=⟨n-1,by omega⟩
 rw[rA,h1 m (by omega)];cases o with
 | norm=>exact absurd rfl ho
 | exit id=>rfl
 | ret=>rfl
theorem Ex.leave {b:aD}{r:Out × St}(h1:Ex E b st r)(ho:r.1≠.norm):Ex E (.loop b) st r:=Ex.out (o:=r.1) (st1:=r.2) h1 ho
theorem Ex.while {α:Type}{b:aD}(S:α->St)(μ:α->Nat)(R:α->Out × St)
  (step:∀ a,(∃ a',Ex E b (S a) (.norm,S a')/\μ a'<μ a/\R a'=R a)\/(Ex E b (S a) (R a)/\(R a).1≠.norm)) :
  ∀ a,Ex E (.loop b) (S a) (R a):=by
 intro a
 induction h:μ a using Nat.strongRecOn generalizing a with
 | ind k ih =>
  rcases step a with ⟨a',h1,h2,h3⟩|⟨h1,h2⟩
  ·have:=ih (μ a') (by omega) a' rfl;rw[h3]at this;exact h1.next this
  ·exact h1.out h2
theorem Ex.inv {α:Type}{b:aD}(S:α->St)(μ:α->Nat)(I:α->Prop)(Q:Out × St->Prop)
  (step:∀ a,I a->(∃ a',Ex E b (S a) (.norm,S a')/\μ a'<μ a/\I a')\/(∃ r,Ex E b (S a) r/\r.1≠.norm/\Q r)) :
  ∀ a,I a->∃ r,Ex E (.loop b) (S a) r/\Q r:=by
 intro a ha
 induction h:μ a using Nat.strongRecOn generalizing a with
 | ind k ih =>
  rcases step a ha with ⟨a',h1,h2,h3⟩|⟨r,h1,h2,h3⟩
  ·obtain⟨r,h4,h5⟩:=ih (μ a') (by omega) a' h3 rfl;exact⟨r,h1.next h4,h5⟩
  ·exact⟨r,h1.leave h2,h3⟩
theorem Ex.seq {a b:aD}{r:Out × St}(h1:Ex E a st (.norm,st1))(h2:Ex E b st1 r):Ex E (.seq a b) st r:=by
 obtain⟨n1,h1⟩:=h1;obtain⟨n2,h2⟩:=h2;refine⟨n1+n2+1,fun n hn => ?_⟩;obtain⟨m,rfl⟩:∃ m,n=m+1:=⟨n-1,by omega⟩
 rw[vJ,h1 m (by omega)];exact h2 m (by omega)
theorem Ex.block {id:Nat}{b:aD}(h1:Ex E b st (.exit id,st1)):Ex E (.block id b) st (.norm,st1):=by
 obtain⟨n1,h1⟩:=h1;refine⟨n1+1,fun n hn => ?_⟩;obtain⟨m,rfl⟩:∃ m,n=m+1:=⟨n-1,by omega⟩
 rw[lT,h1 m (by omega)];simp
theorem Ex.d9 {id:Nat}{b:aD}(h1:Ex E b st (.norm,st1)):Ex E (.block id b) st (.norm,st1):=by
 obtain⟨n1,h1⟩:=h1;refine⟨n1+1,fun n hn => ?_⟩;obtain⟨m,rfl⟩:∃ m,n=m+1:=⟨n-1,by omega⟩
 rw[lT,h1 m (by omega)]
theorem Ex.bf {id:Nat}{b:aD}(h1:Ex E b st (.ret,st1)):Ex E (.block id b) st (.ret,st1):=by
 obtain⟨n1,h1⟩:=h1;refine⟨n1+1,fun n hn => ?_⟩;obtain⟨m,rfl⟩:∃ m,n=m+1:=⟨n-1,by omega⟩
 rw[lT,h1 m (by omega)]
theorem Ex.bD {a b:aD}(h1:Ex E a st (.ret,st1)):Ex E (.seq a b) st (.ret,st1):=by
 obtain⟨n1,h1⟩:=h1;refine⟨n1+1,fun n hn => ?_⟩;obtain⟨m,rfl⟩:∃ m,n=m+1:=⟨n-1,by omega⟩
 rw[vJ,h1 m (by omega)]
theorem Ca.body {g:Nat}{F:ai}{args:List FV}{o:Out}{r:FV × Option (List ae)}(hp:E.iF g=none)(hf:E.fn g=some F)(hl:args.length=F.np)
  (h:Ex E F.body {vars:=args++List.replicate (F.nv-F.np) .u,base:=[],loc:=[],aO:=false} (o,st1)) (ho:∀ id,o≠.exit id) (hr:finish F st1=some r):Ca E g args r:=by
 obtain⟨n0,h⟩:=h;refine⟨n0,fun n hn => ?_⟩;rw[Ed hp hf hl,h n hn];cases o with
 | exit id=>exact absurd rfl (ho id)
 | norm=>exact hr
 | ret=>exact hr
end
end
def LL (l:List Nat):List D:=l.map fun(x:Nat)=>D.v (.int .u32 (x:Int))
def LD (l:List Nat):D:=.s 1 (LL l)
def bu (l:List Nat)(i:Nat):Nat:=(l[i]?).getD 0
def val:List Nat->Nat
 | []=>0
 | x::r=>x+4294967296*val r
def bK (l:List Nat):Prop:=∀ x ∈ l,x<4294967296
theorem wrap_u64 {z:Int}(h:0<=z/\z<18446744073709551616):ak .u64 z=z:=by
 rw[bV];simp only[IntKind.wrap,IntKind.bits,IntKind.signed];simp;omega
theorem wrap_i64 {z:Int}(h:-9223372036854775808<=z/\z<9223372036854775808):ak .i64 z=z:=by
 rw[bV];simp only[IntKind.wrap,IntKind.bits,IntKind.signed];simp;split<;>omega
theorem wrap_u32 {z:Int}(h:0<=z/\z<4294967296):ak .u32 z=z:=by
 rw[bV];simp only[IntKind.wrap,IntKind.bits,IntKind.signed];simp;omega
theorem cZ (z:Int):ak .u32 z=z % 4294967296:=by
 rw[bV];simp only[IntKind.wrap,IntKind.bits,IntKind.signed];simp
theorem fe (z:Int):ak .u64 z=z % 18446744073709551616:=by
 rw[bV];simp only[IntKind.wrap,IntKind.bits,IntKind.signed];simp
theorem idx {α:Type}{es:List α}{k:Nat}{v:α}(h:es[k]?=some v)(h2:k<es.length):es[k]=v:=by
 rw[List.getElem?_eq_getElem h2]at h;exact Option.some.inj h
def trim:List Nat->List Nat
 | []=>[]
 | x::r=>if trim r=[]/\x=0 then [] else x::trim r
theorem qK:∀ (a:List Nat),trim (a++[0])=trim a
 | []=>by simp[trim]
 | x::r=>by
  rw[List.cons_append,trim,trim,qK r]
theorem qJ:∀ (a:List Nat) (x:Nat),x≠0->trim (a++[x])=a++[x]
 | [],x,h=>by simp[trim,h]
 | y::r,x,h=>by
  rw[List.cons_append,trim,qJ r x h];simp
theorem Ht:∀ (a:List Nat),val (trim a)=val a
 | []=>rfl
 | x::r=>by
  have ih:=Ht r;rw[trim];split
  ·rename_i h;rw[h.1]at ih;simp only[val]at ih ⊢;omega
  ·simp only[val];rw[ih]
theorem Hu:∀ {a:List Nat},bK a->bK (trim a)
 | [],h=>h
 | x::r,h=>by
  have ih:bK (trim r):=Hu (fun y hy=>h y (List.mem_cons_of_mem _ hy));rw[trim];split
  ·intro y hy;cases hy
  ·intro y hy;rcases List.mem_cons.1 hy with rfl|hy
   ·exact h _ (List.mem_cons_self ..)
   ·exact ih y hy
theorem o9:∀ (a:List Nat),(trim a).length<=a.length
 | []=>Nat.le_refl _
 | x::r=>by
  have:=o9 r;rw[trim];split<;>simp<;>omega
theorem Dt:∀ (a:List Nat),trim (trim a)=trim a
 | []=>rfl
 | x::r=>by
  have ih:=Dt r;rw[trim];split
  ·rfl
  ·rename_i h;rw[trim,ih];rw[if_neg h]
theorem val_inj:∀ {a b:List Nat},bK a->bK b->trim a=a->trim b=b->val a=val b->a=b
 | [],[],_,_,_,_,_=>rfl
 | [],y::s,_,hb,_,tb,h=>by
  exfalso;have hv:val (y::s)=0:=h.symm;simp only[val]at hv;have h0:y=0/\val s=0:=by omega
  have hs:bK s:=fun z hz=>hb z (List.mem_cons_of_mem _ hz)
  rw[trim]at tb;split at tb
  ·cases tb
  ·rename_i hn;simp only[List.cons.injEq,true_and]at tb;have:=val_inj (a:=[]) (b:=s) (fun _ h=>by cases h) hs rfl tb (by simp[val,h0.2]);subst this;exact hn ⟨rfl,h0.1⟩
 | x::r,[],ha,_,ta,_,h=>by
  exfalso;have hv:val (x::r)=0:=h;simp only[val]at hv;have h0:x=0/\val r=0:=by omega
  have hr:bK r:=fun z hz=>ha z (List.mem_cons_of_mem _ hz)
  rw[trim]at ta;split at ta
  ·cases ta
  ·rename_i hn;simp only[List.cons.injEq,true_and]at ta;have:=val_inj (a:=r) (b:=[]) hr (fun _ h=>by cases h) ta rfl (by simp[val,h0.2]);subst this;exact hn ⟨rfl,h0.1⟩
 | x::r,y::s,ha,hb,ta,tb,h=>by
  simp only[val]at h;have hx:=ha x (List.mem_cons_self ..);have hy:=hb y (List.mem_cons_self ..);have h0:x=y/\val r=val s:=by omega
  have hr:bK r:=fun z hz=>ha z (List.mem_cons_of_mem _ hz)
  have hs:bK s:=fun z hz=>hb z (List.mem_cons_of_mem _ hz)
  have tr:trim r=r:=by
   rw[trim]at ta;split at ta
   ·cases ta
   ·simpa using ta
  have ts:trim s=s:=by
   rw[trim]at tb;split at tb
   ·cases tb
   ·simpa using tb
  rw[h0.1,val_inj hr hs tr ts h0.2]
def enc (n:Nat):List Nat:=if n=0 then [] else n % 4294967296::enc (n / 4294967296)
termination_by n
theorem aS (n:Nat):val (enc n)=n:=by
 induction n using Nat.strongRecOn with
 | ind n ih =>
  rw[enc];split
  ·subst_vars;rfl
  ·rename_i h;simp only[val];rw[ih _ (by omega)];omega
theorem aP (n:Nat):bK (enc n):=by
 induction n using Nat.strongRecOn with
 | ind n ih =>
  rw[enc];split
  ·intro x hx;cases hx
  ·intro x hx;rcases List.mem_cons.1 hx with rfl|hx
   ·exact Nat.mod_lt _ (by omega)
   ·exact ih _ (by omega) x hx
theorem dD {n:Nat}:enc n=[]↔n=0:=by
 rw[enc];split<;>simp[*]
theorem Fz (n:Nat):trim (enc n)=enc n:=by
 induction n using Nat.strongRecOn with
 | ind n ih =>
  rw[enc];split
  ·rfl
  ·rename_i h;rw[trim,ih _ (by omega),if_neg];rintro⟨h1,h2⟩;rw[dD]at h1;omega
theorem bS {a:List Nat}(h:bK a):trim a=enc (val a) :=
 val_inj (Hu h) (aP _) (Dt a) (Fz _) (by rw[Ht,aS])
theorem ib (l:List Nat)(k:Nat):val (l.drop k)=bu l k+4294967296*val (l.drop (k+1)):=by
 unfold bu
 by_cases h:k<l.length
 ·rw[List.drop_eq_getElem_cons h,List.getElem?_eq_getElem h];simp[val]
 ·rw[List.drop_eq_nil_of_le (by omega),List.drop_eq_nil_of_le (by omega),List.getElem?_eq_none (by omega)];simp[val]
theorem val_append:∀ (o:List Nat) (d:List Nat),val (o++d)=val o+4294967296 ^ o.length*val d
 | [],d=>by simp[val]
 | x::r,d=>by
  rw[List.cons_append,val,val,val_append r d,List.length_cons,Nat.pow_succ];grind
theorem gp {l:List Nat}{k:Nat}(h:l.length<=k):val (l.drop k)=0:=by
 rw[List.drop_eq_nil_of_le h];rfl
theorem mE:∀ {l:List Nat},bK l->val l<4294967296 ^ l.length
 | [],_=>by simp[val]
 | x::r,h=>by
  have h1:=mE (l:=r) (fun y hy=>h y (List.mem_cons_of_mem _ hy));have h2:=h x (List.mem_cons_self ..);rw[val,List.length_cons,Nat.pow_succ];generalize 4294967296 ^ r.length=p at*;omega
theorem gm {a b:List Nat}(ha:bK a)(hb:bK b):bK (a++b):=by
 intro x hx;rcases List.mem_append.1 hx with h|h
 ·exact ha x h
 ·exact hb x h
def bQ (l:List Nat)(k:Nat):Nat:=val (l.take k)
theorem dI (l:List Nat)(k:Nat):bQ l (k+1)=bQ l k+4294967296 ^ k*bu l k:=by
 unfold bQ bu
 by_cases h:k<l.length
 ·rw[List.take_succ_eq_append_getElem h,val_append,List.length_take,Nat.min_eq_left (by omega),List.getElem?_eq_getElem h];simp[val]
 ·rw[List.take_of_length_le (by omega),List.take_of_length_le (by omega),List.getElem?_eq_none (by omega)];simp
theorem mK {l:List Nat}(h:bK l)(k:Nat):bQ l k<4294967296 ^ k:=by
 have h1:bK (l.take k):=fun x hx=>h x (List.mem_of_mem_take hx)
 refine Nat.lt_of_lt_of_le (mE h1) (Nat.pow_le_pow_right (by omega) ?_);simp only[List.length_take];omega
theorem eD {l:List Nat}{k:Nat}(h:l.length<=k):bQ l k=val l:=by unfold bQ;rw[List.take_of_length_le h]
theorem iR {va vb P x y:Nat}(h1:va<P)(h:x<y):va+P*x<vb+P*y:=by
 have:P*x+P<=P*y:=by rw[<-Nat.mul_succ];exact Nat.mul_le_mul_left _ h
 omega
def row0 (o:List Nat)(m:Nat):List Nat:=o++List.replicate m 0
theorem J8 (o:List Nat)(m:Nat):(LL (row0 o (m+1)))[o.length]?=some (.v (.int .u32 0)):=by
 simp[LL,row0,List.getElem?_append_right]
theorem Fb (o:List Nat)(m v:Nat):(LL (row0 o (m+1))).set o.length (.v (.int .u32 (v:Int)))=LL (row0 (o++[v]) m):=by
 simp[LL,row0,List.set_append_right,List.replicate_succ]
theorem oZ (o:List Nat)(m:Nat):(LL (row0 o m)).length=o.length+m:=by simp[LL,row0]
theorem uk (m:Nat):LL (row0 [] m)=List.replicate m (.v (.int .u32 0)):=by simp[LL,row0]
theorem BV (o:List Nat):row0 o 0=o:=by simp[row0]
theorem bC {m n:Nat}(h:m<=n):(enc m).length<=(enc n).length:=by
 induction n using Nat.strongRecOn generalizing m with
 | ind n ih =>
  rw[enc];split
  ·simp
  ·rename_i h0
   conv=>rhs;rw[enc]
   rw[if_neg (by omega)];simp only[List.length_cons];have:=@ih (n / 4294967296) (by omega) (m / 4294967296) (by omega);omega
end Fi
