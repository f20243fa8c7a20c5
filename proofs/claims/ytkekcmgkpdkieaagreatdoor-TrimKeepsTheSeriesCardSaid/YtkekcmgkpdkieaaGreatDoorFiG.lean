import Derived.Test.YtkekcmgkpdkieaaGreatDoorFiE
set_option linter.unusedVariables false
set_option linter.unusedSimpArgs false
namespace Fi
open Go
def VA:IntKind->IntKind->Bool
 | .i8,.i8 | .i16,.i16 | .i32,.i32 | .i64,.i64 | .u8,.u8 | .u16,.u16 | .u32,.u32 | .u64,.u64=>true
 | _,_=>false
theorem YU {a b:IntKind}(h:VA a b=true):a=b:=by cases a<;>cases b<;>first|rfl|cases h
def JX:Int->Int->Bool
 | .ofNat a,.ofNat b=>Nat.beq a b
 | .negSucc a,.negSucc b=>Nat.beq a b
 | _,_=>false
theorem YV {a b:Int}(h:JX a b=true):a=b:=by
 cases a<;>cases b<;>simp only[JX]at h<;>first|(cases h;done)|(rw[Qm2 h])
def JZ:Value->Value->Bool
 | .int k a,.int k' b=>VA k k'&&JX a b
 | .bool a,.bool b=>a==b
 | _,_=>false
theorem YW {a b:Value}(h:JZ a b=true):a=b:=by
 unfold JZ at h;split at h
 ·simp only[Qc1]at h;rw[YU h.1,YV h.2]
 ·rw[eq_of_beq h]
 ·cases h
mutual
def jY:D->D->Bool
 | .v x,.v y=>JZ x y
 | .fn a,.fn b=>Nat.beq a b
 | .n a,.n b=>Nat.beq a b
 | .i,.i=>true
 | .s a xs,.s b ys=>Nat.beq a b&&fK xs ys
 | .a xs,.a ys=>fK xs ys
 | .t xs,.t ys=>fK xs ys
 | _,_=>false
def fK:List D->List D->Bool
 | [],[]=>true
 | x::xs,y::ys=>jY x y&&fK xs ys
 | _,_=>false
end
mutual
theorem nK:∀ {x y:D},jY x y=true->x=y
 | .v x,y,h=>by
  cases y<;>simp only[jY]at h<;>first|(cases h;done)|(rw[YW h])
 | .fn a,y,h=>by
  cases y<;>simp only[jY]at h<;>first|(cases h;done)|(rw[Qm2 h])
 | .n a,y,h=>by
  cases y<;>simp only[jY]at h<;>first|(cases h;done)|(rw[Qm2 h])
 | .i,y,h=>by
  cases y<;>simp only[jY]at h<;>first|(cases h;done)|rfl
 | .s a xs,y,h=>by
  cases y<;>simp only[jY]at h<;>first|(cases h;done)|skip
  simp only[Qc1]at h;rw[Qm2 h.1,y9 h.2]
 | .a xs,y,h=>by
  cases y<;>simp only[jY]at h<;>first|(cases h;done)|(rw[y9 h])
 | .t xs,y,h=>by
  cases y<;>simp only[jY]at h<;>first|(cases h;done)|(rw[y9 h])
theorem y9:∀ {xs ys:List D},fK xs ys=true->xs=ys
 | [],ys,h=>by
  cases ys with
  | nil=>rfl
  | cons _ _=>simp only[fK]at h;cases h
 | x::xs,ys,h=>by
  cases ys with
  | nil=>simp only[fK]at h;cases h
  | cons y ys =>
   simp only[fK,Qc1]at h;rw[nK h.1,y9 h.2]
end
def ajp (r:bJ)(x:D):Bool:=match r with
 | some (.d y,none)=>jY y x
 | _=>false
theorem aaV {r:bJ}{x:D}(h:ajp r x=true):r=some (.d x,none):=by
 unfold ajp at h;split at h
 ·rw[nK h]
 ·cases h
theorem adV {n:Nat}{f:Nat->Bool}(h:(List.range n).all f=true){i:Nat}(hi:i<n):f i=true:=Qh0.1 h i (Xx1.2 hi)
section
theorem G6 {α:Sort _}(a:α):∃ z,z=a:=⟨a,rfl⟩
noncomputable def rH {α:Sort _} (a:α):α:=Classical.choose (G6 a)
theorem ll {α:Sort _}(a:α):rH a=a:=Classical.choose_spec (G6 a)
noncomputable def EX (E:Env) (n:Nat) (c:aG) (st:St):Option (Out × St):=rH (exec E n c st)
noncomputable def CL (E:Env) (n:Nat) (g:Nat) (args:List FV) (B:List ai):bJ:=rH (cz E n g args B)
noncomputable def TM (E:Env) (rec:Nat->List FV->List ai->bJ) (ops:List jM) (st:St) (env:List FV):Option (St × List FV):=rH (ek E rec ops st env)
noncomputable def RK (E:Env) (rec:Nat->List FV->List ai->bJ) (draw:Bool) (st:St) (env:List FV) (k:K):Option (FV × St):=rH (runK E rec draw st env k)
noncomputable def rW (op:BinOp) (x y:Value):Option Value:=rH (ic op x y)
noncomputable def ak (k:IntKind) (z:Int):Int:=rH (k.wrap z)
theorem rP (E:Env)(n:Nat)(c:aG)(st:St):EX E n c st=exec E n c st:=ll _
theorem jR (E:Env)(n g:Nat)(args:List FV)(B:List ai):CL E n g args B=cz E n g args B:=ll _
theorem BQ (E:Env)(rec:Nat->List FV->List ai->bJ)(ops:List jM)(st:St)(env:List FV):TM E rec ops st env=ek E rec ops st env:=ll _
theorem dn (E:Env)(rec:Nat->List FV->List ai->bJ)(draw:Bool)(st:St)(env:List FV)(k:K):RK E rec draw st env k=runK E rec draw st env k:=ll _
theorem fD (op:BinOp)(x y:Value):rW op x y=ic op x y:=ll _
theorem dh (k:IntKind)(z:Int):ak k z=k.wrap z:=ll _
theorem agd (E:Env)(n:Nat):CL E n=cz E n:=by funext g args B;exact jR E n g args B
section
variable {E:Env} {n:Nat} {st:St}
theorem Zr:EX E (n+1) .skip st=some (.norm,st):=by rw[rP];rfl
theorem ads:EX E (n+1) .ret st=some (.ret,st):=by rw[rP];rfl
theorem Zt {id:Nat}:EX E (n+1) (.exit id) st=some (.exit id,st):=by rw[rP];rfl
theorem Zu {js:List Nat}:EX E (n+1) (.kill js) st=some (.norm,{st with vars:=nD st.vars js}):=by rw[rP];rfl
theorem adt {a b : aG} : EX E (n + 1) (.seq a b) st = match EX E n a st with
      | some (.norm, st') => EX E n b st'
      | r => r := by
 simp only[rP];rfl
theorem Zv {x : Arg} {a b : aG} : EX E (n + 1) (.cond x a b) st = match dH E st [] x with
      | some (.d (.v (.bool t))) => EX E n (if t then a else b) st
      | _ => none := by
 simp only[rP];rfl
theorem Ue {id : Nat} {b : aG} : EX E (n + 1) (.block id b) st = match EX E n b st with
      | some (.exit id', st') => if id' = id then some (.norm, st') else some (.exit id', st')
      | r => r := by
 simp only[rP];rfl
theorem aF {b : aG} : EX E (n + 1) (.loop b) st = match EX E n b st with
      | some (.norm, st') => EX E n (.loop b) st'
      | r => r := by
 simp only[rP];rfl
theorem QI {ops:List jM}{outs apart:List (Nat × Nat)}:EX E (n+1) (.region ops outs apart) st =
  if lq st apart then(match TM E (CL E n) ops st [] with
   | some (st',env)=>some (.norm,{st' with vars:=jF st'.vars env outs})
   | none=>none) else none:=by
 simp only[rP,BQ,agd];rfl
variable {rec:Nat->List FV->List ai->bJ} {env:List FV} {draw:Bool}
theorem Uf:TM E rec [] st env=some (st,env):=by rw[BQ];rfl
theorem QJ {o:jM}{rest:List jM}:TM E rec (o::rest) st env=match mD env o.guard with
  | none=>none
  | some false=>TM E rec rest st (env++[.d (.t [])])
  | some true=>match RK E rec o.q st env o.k with
   | none=>none
   | some (v,st')=>TM E rec rest st' (env++[v]):=by
 simp only[BQ,dn];rfl
theorem adu {x:Arg}:RK E rec draw st env (.Bw x)=match dH E st env x with
  | some v=>some (v,st)
  | none=>none:=by rw[dn];rfl
theorem Zw {c a b:Arg}:RK E rec draw st env (.pick c a b)=match dH E st env c with
  | some (.d (.v (.bool t)))=>match dH E st env (if t then a else b) with
   | some v=>some (v,st)
   | none=>none
  | _=>none:=by rw[dn];rfl
theorem adv {op:BinOp}{x y:Arg}:RK E rec draw st env (.bin op x y)=match dH E st env x,dH E st env y with
  | some (.d (.v p)),some (.d (.v q))=>match rW op p q with
   | some v=>some (.d (.v v),st)
   | none=>none
  | _,_=>none:=by simp only[dn,fD];rfl
theorem Zx {k:IntKind}{x:Arg}:RK E rec draw st env (.conv k x)=match dH E st env x with
  | some (.d (.v (.int _ n)))=>some (.d (.v (.int k (ak k n))),st)
  | _=>none:=by simp only[dn,dh];rfl
theorem adw {neg:Bool}{x y:Arg}:RK E rec draw st env (.beq neg x y)=runK E rec draw st env (.beq neg x y):=dn ..
theorem adx {neg:Bool}{l:Nat}{x y:Arg}:RK E rec draw st env (.aeq neg l x y)=runK E rec draw st env (.aeq neg l x y):=dn ..
theorem Ug {k:Nat}{neg:Bool}{x:Arg}:RK E rec draw st env (.yM k neg x)=runK E rec draw st env (.yM k neg x):=dn ..
theorem agP {op:UnOp}{x:Arg}:RK E rec draw st env (.un op x)=runK E rec draw st env (.un op x):=dn ..
theorem ady {x:Arg}:RK E rec draw st env (.box x)=runK E rec draw st env (.box x):=dn ..
theorem adz {z:List D}:RK E rec draw st env (.new z)=runK E rec draw st env (.new z):=dn ..
theorem Zy {agg:Bool}{n:Nat}{p:Arg}:RK E rec draw st env (.load agg n p)=runK E rec draw st env (.load agg n p):=dn ..
theorem Uh {n:Nat}{p x:Arg}:RK E rec draw st env (.store n p x)=runK E rec draw st env (.store n p x):=dn ..
theorem Ui {off:Nat}{agg:Bool}{n:Nat}{p:Arg}:RK E rec draw st env (.Qx off agg n p)=runK E rec draw st env (.Qx off agg n p):=dn ..
theorem Uj {off:Nat}{agg:Bool}{n:Nat}{p:Arg}:RK E rec draw st env (.field off agg n p)=runK E rec draw st env (.field off agg n p):=dn ..
theorem Uk {sz:Nat}{x i:Arg}:RK E rec draw st env (.Qy sz x i)=runK E rec draw st env (.Qy sz x i):=dn ..
theorem Ul {len sz:Nat}{agg:Bool}{x i:Arg}:RK E rec draw st env (.Qz len sz agg x i)=runK E rec draw st env (.Qz len sz agg x i):=dn ..
theorem Um {len sz:Nat}{agg:Bool}{x i:Arg}:RK E rec draw st env (.index len sz agg x i)=runK E rec draw st env (.index len sz agg x i):=dn ..
theorem Un {z:List D}{ps:List (Nat × Nat × Arg)}:RK E rec draw st env (.build z ps)=runK E rec draw st env (.build z ps):=dn ..
theorem adA {sz:Nat}{agg:Bool}{z:List D}{len:Nat}{ps:List (Nat × Arg)}:RK E rec draw st env (.lit sz agg z len ps)=runK E rec draw st env (.lit sz agg z len ps):=dn ..
theorem adB {x:Arg}:RK E rec draw st env (.len x)=runK E rec draw st env (.len x):=dn ..
theorem Zz {x y:Arg}:RK E rec draw st env (.maxi x y)=runK E rec draw st env (.maxi x y):=dn ..
theorem ZA {x y:Arg}:RK E rec draw st env (.ab6 x y)=runK E rec draw st env (.ab6 x y):=dn ..
theorem adC {sz b:Nat}{x y:Arg}:RK E rec draw st env (.app sz b x y)=runK E rec draw st env (.app sz b x y):=dn ..
theorem Uo {sz:Nat}{x:Arg}{lo hi:Option Arg}:RK E rec draw st env (.slice sz x lo hi)=runK E rec draw st env (.slice sz x lo hi):=dn ..
theorem agQ {sz b:Nat}{agg:Bool}{z:List D}{len cap:Arg}:RK E rec draw st env (.mk sz b agg z len cap)=runK E rec draw st env (.mk sz b agg z len cap):=dn ..
theorem adD {x:Arg}{i:Nat}:RK E rec draw st env (.ext x i)=runK E rec draw st env (.ext x i):=dn ..
theorem adE {g:Nat}{a b:List Arg}:RK E rec draw st env (.clo g a b)=runK E rec draw st env (.clo g a b):=dn ..
theorem Ur {g:Nat}{args:List Arg}:RK E rec draw st env (.rO g args)=runK E rec draw st env (.rO g args):=dn ..
theorem adG {x:Arg}:RK E rec draw st env (.cap x)=runK E rec draw st env (.cap x):=dn ..
theorem ZF {sz b:Nat}{agg:Bool}{z:List D}{x n:Arg}:RK E rec draw st env (.Yu sz b agg z x n)=runK E rec draw st env (.Yu sz b agg z x n):=dn ..
theorem Uu:RK E rec draw st env .LA=runK E rec draw st env .LA:=dn ..
theorem ZC {ok:Bool}{kind:Nat}{z:D}{m k:Arg}:RK E rec draw st env (.Yv ok kind z m k)=runK E rec draw st env (.Yv ok kind z m k):=dn ..
theorem ZE {kind:Nat}{m k x:Arg}:RK E rec draw st env (.OB kind m k x)=runK E rec draw st env (.OB kind m k x):=dn ..
theorem FD {x i:Arg}:RK E rec draw st env (.vV x i)=runK E rec draw st env (.vV x i):=dn ..
theorem ZG {x:Arg}:RK E rec draw st env (.ab5 x)=runK E rec draw st env (.ab5 x):=dn ..
theorem QL {x:Arg}{lo hi:Option Arg}:RK E rec draw st env (.IQ x lo hi)=runK E rec draw st env (.IQ x lo hi):=dn ..
theorem ZB {g:Nat}{args:List Arg}:RK E rec draw st env (.call g args)=runK E rec draw st env (.call g args):=dn ..
theorem Us {f:Arg}{args ps:List Arg}:RK E rec draw st env (.mJ f args ps)=runK E rec draw st env (.mJ f args ps):=dn ..
theorem Ut {agg:Bool}{n:Nat}{p:Arg}:RK E rec draw st env (.jS agg n p)=runK E rec draw st env (.jS agg n p):=dn ..
theorem QK {n:Nat}{p x:Arg}{ps:List Arg}:RK E rec draw st env (.jq n p x ps)=runK E rec draw st env (.jq n p x ps):=dn ..
theorem adF {sz:Nat}{agg:Bool}{z:List D}{x:Arg}:RK E rec draw st env (.clr sz agg z x)=runK E rec draw st env (.clr sz agg z x):=dn ..
theorem Uq {f:Arg}{args:List Arg}:RK E rec draw st env (.nR f args)=runK E rec draw st env (.nR f args):=dn ..
variable {k k':IntKind} {a b:Int}
theorem agR:rW .add (.int k a) (.int k b)=some (.int k (ak k (a+b))):=by rw[fD,dh,aja]
theorem agS:rW .sub (.int k a) (.int k b)=some (.int k (ak k (a-b))):=by rw[fD,dh,ajb]
theorem agT:rW .mul (.int k a) (.int k b)=some (.int k (ak k (a*b))):=by rw[fD,dh,ajc]
theorem agU:rW .quo (.int k a) (.int k b)=if b=0 then none else some (.int k (ak k (a.tdiv b))):=by rw[fD,dh,ajd]
theorem agV:rW .rem (.int k a) (.int k b)=if b=0 then none else some (.int k (a.tmod b)):=by rw[fD,aje]
theorem ajU:rW .or (.int k a) (.int k b)=some (.int k (Ci k a b)):=by rw[fD,alW]
theorem agW:rW .and (.int k a) (.int k b)=some (.int k (oN k a b)):=by rw[fD,ajf]
theorem agX:rW .xor (.int k a) (.int k b)=some (.int k (agc k a b)):=by rw[fD,ajg]
theorem agY:rW .shl (.int k a) (.int k' b)=if b<0 then none else some (.int k (MG k a b)):=by rw[fD,ajh]
theorem agZ:rW .shr (.int k a) (.int k' b)=if b<0 then none else some (.int k (a.fdiv (2 ^ (min b.toNat k.bits)))):=by rw[fD,aji]
theorem ag0:rW .eql (.int k a) (.int k b)=some (.bool (a==b)):=by rw[fD,ajj]
theorem ag1:rW .neq (.int k a) (.int k b)=some (.bool (a != b)):=by rw[fD,ajk]
theorem ag2:rW .lss (.int k a) (.int k b)=some (.bool (decide (a<b))):=by rw[fD,ajl]
theorem ag3:rW .leq (.int k a) (.int k b)=some (.bool (decide (a<=b))):=by rw[fD,ajm]
theorem ag4:rW .gtr (.int k a) (.int k b)=some (.bool (decide (b<a))):=by rw[fD,ajn]
theorem ag5:rW .geq (.int k a) (.int k b)=some (.bool (decide (b<=a))):=by rw[fD,ajo]
theorem aB {g:Nat}{F:bM}{args:List FV}{B:List ai}(hp:E.jl g=none)(hf:E.fn g=some F)(hl:args.length=F.np) :
  CL E n g args B=match EX E n F.body {vars:=args++List.replicate (F.nv-F.np) .u,base:=B,loc:=[],aR:=false} with
    | some (.exit _,_)=>none
    | some (_,st')=>finish F st'
    | none=>none:=by
 rw[jR,rP,BM hp hf hl];rfl
end
theorem sW {E:Env}{n g:Nat}{p:List FV->List ai->bJ}{args:List FV}{B:List ai}(hp:E.jl g=none)(hf:E.fn g=none)(hB:E.iU g=some p) :
  CL E n g args B=match p args B with
    | some (v,some B')=>if B.length<=B'.length then some (v,some B') else none
    | r=>r:=by
 rw[jR,O4 hp hf hB];rfl
theorem dL {E:Env}{n m g:Nat}{args:List FV}{B:List ai}{x:FV × Option (List ai)}(hx:CL E n g args B=some x)(hm:n<=m):CL E m g args B=some x:=by
 rw[jR]at hx ⊢;exact zB hx hm
theorem Ca.bQ {E:Env}{n g:Nat}{args:List FV}{r:FV × Option (List ai)}(h:CL E n g args []=some r):Ca E g args r:=Ca.of (by rw[<-jR];exact h)
theorem Ca.get {E:Env}{g:Nat}{args:List FV}{r:FV × Option (List ai)}(h:Ca E g args r):∃ n0,∀ k,CL E (n0+k) g args []=some r:=by
 obtain⟨n0,h⟩:=h;exact⟨n0,fun k=>by rw[jR];exact h _ ae⟩
theorem Ca.any {E:Env}{g:Nat}{args:List FV}{r:FV × Option (List ai)}(h:Ca E g args r):∃ n0,∀ n,n0<=n->∀ k,CL E (n+k) g args []=some r:=by
 obtain⟨n0,h⟩:=h;exact⟨n0,fun n hn k=>by rw[jR];exact h _ ae⟩
def Any (P:Nat->Prop):Prop:=∃ n0,∀ n,n0<=n->P n
theorem Ca.j {E:Env}{g:Nat}{args:List FV}{r:FV × Option (List ai)}{Q:Nat->Prop}(h:Ca E g args r)(q:Any Q):Any fun n=>(∀ k,CL E (n+k) g args []=some r)/\Q n:=by
 obtain⟨a,h⟩:=h.any;obtain⟨b,q⟩:=q;exact⟨a+b,fun n hn=>⟨h n ae,q n ae⟩⟩
theorem Any.at {P:Nat->Prop}(h:Any P)(c:Nat):∃ K,c<=K/\P K:=by
 obtain⟨a,h⟩:=h;exact⟨a+c,ae,h _ ae⟩
end
section
def aG.l:aG->aG
 | .seq a _=>a
 | _=>.skip
def aG.r:aG->aG
 | .seq _ b=>b
 | _=>.skip
def aG.bl:aG->aG
 | .block _ b=>b
 | _=>.skip
def aG.lp:aG->aG
 | .loop b=>b
 | _=>.skip
def Ex (E:Env)(c:aG)(st:St)(r:Out × St):Prop:=∃ n0,∀ n,n0<=n->exec E n c st=some r
section
variable {E:Env} {st st1 st2:St}
theorem Ex.of {n:Nat}{c:aG}{r:Out × St}(h:EX E n c st=some r):Ex E c st r:=⟨n,fun _ hm=>G5 (by rw[<-rP];exact h) hm⟩
theorem Ex.next {b:aG}{r:Out × St}(h1:Ex E b st (.norm,st1))(h2:Ex E (.loop b) st1 r):Ex E (.loop b) st r:=by
 obtain⟨n1,h1⟩:=h1;obtain⟨n2,h2⟩:=h2;refine⟨n1+n2+1,fun n hn => ?_⟩;obtain⟨m,rfl⟩:∃ m,n=m+1:=⟨n-1,ae⟩
 rw[p9,h1 m ae];exact h2 m ae
theorem Ex.out {b:aG}{o:Out}(h1:Ex E b st (o,st1))(ho:o≠.norm):Ex E (.loop b) st (o,st1):=by
 obtain⟨n1,h1⟩:=h1;refine⟨n1+1,fun n hn => ?_⟩;obtain⟨m,rfl⟩:∃ m,n=m+1:=⟨n-1,ae⟩
 rw[p9,h1 m ae];cases o with
 | norm=>exact absurd rfl ho
 | exit id=>rfl
 | ret=>rfl
theorem Ex.leave {b:aG}{r:Out × St}(h1:Ex E b st r)(ho:r.1≠.norm):Ex E (.loop b) st r:=Ex.out (o:=r.1) (st1:=r.2) h1 ho
theorem Ex.while {α:Type}{b:aG}(S:α->St)(μ:α->Nat)(R:α->Out × St)
  (step:∀ a,(∃ a',Ex E b (S a) (.norm,S a')/\μ a'<μ a/\R a'=R a)\/(Ex E b (S a) (R a)/\(R a).1≠.norm)) :
  ∀ a,Ex E (.loop b) (S a) (R a):=by
 intro a
 induction h:μ a using Nat.strongRecOn generalizing a with
 | ind k ih =>
  rcases step a with ⟨a',h1,h2,h3⟩|⟨h1,h2⟩
  ·have:=ih (μ a') ae a' rfl;rw[h3]at this;exact h1.next this
  ·exact h1.out h2
theorem Ex.inv {α:Type}{b:aG}(S:α->St)(μ:α->Nat)(I:α->Prop)(Q:Out × St->Prop)
  (step:∀ a,I a->(∃ a',Ex E b (S a) (.norm,S a')/\μ a'<μ a/\I a')\/(∃ r,Ex E b (S a) r/\r.1≠.norm/\Q r)) :
  ∀ a,I a->∃ r,Ex E (.loop b) (S a) r/\Q r:=by
 intro a ha
 induction h:μ a using Nat.strongRecOn generalizing a with
 | ind k ih =>
  rcases step a ha with ⟨a',h1,h2,h3⟩|⟨r,h1,h2,h3⟩
  ·obtain⟨r,h4,h5⟩:=ih (μ a') ae a' h3 rfl;exact⟨r,h1.next h4,h5⟩
  ·exact⟨r,h1.leave h2,h3⟩
theorem Ex.seq {a b:aG}{r:Out × St}(h1:Ex E a st (.norm,st1))(h2:Ex E b st1 r):Ex E (.seq a b) st r:=by
 obtain⟨n1,h1⟩:=h1;obtain⟨n2,h2⟩:=h2;refine⟨n1+n2+1,fun n hn => ?_⟩;obtain⟨m,rfl⟩:∃ m,n=m+1:=⟨n-1,ae⟩
 rw[uz,h1 m ae];exact h2 m ae
theorem Ex.block {id:Nat}{b:aG}(h1:Ex E b st (.exit id,st1)):Ex E (.block id b) st (.norm,st1):=by
 obtain⟨n1,h1⟩:=h1;refine⟨n1+1,fun n hn => ?_⟩;obtain⟨m,rfl⟩:∃ m,n=m+1:=⟨n-1,ae⟩
 rw[lh,h1 m ae];simp
theorem Ex.fE {id:Nat}{b:aG}(h1:Ex E b st (.norm,st1)):Ex E (.block id b) st (.norm,st1):=by
 obtain⟨n1,h1⟩:=h1;refine⟨n1+1,fun n hn => ?_⟩;obtain⟨m,rfl⟩:∃ m,n=m+1:=⟨n-1,ae⟩
 rw[lh,h1 m ae]
theorem Ex.b_ {id:Nat}{b:aG}(h1:Ex E b st (.ret,st1)):Ex E (.block id b) st (.ret,st1):=by
 obtain⟨n1,h1⟩:=h1;refine⟨n1+1,fun n hn => ?_⟩;obtain⟨m,rfl⟩:∃ m,n=m+1:=⟨n-1,ae⟩
 rw[lh,h1 m ae]
theorem Ex.dE {a b:aG}(h1:Ex E a st (.ret,st1)):Ex E (.seq a b) st (.ret,st1):=by
 obtain⟨n1,h1⟩:=h1;refine⟨n1+1,fun n hn => ?_⟩;obtain⟨m,rfl⟩:∃ m,n=m+1:=⟨n-1,ae⟩
 rw[uz,h1 m ae]
theorem Ca.body {g:Nat}{F:bM}{args:List FV}{o:Out}{r:FV × Option (List ai)}(hp:E.jl g=none)(hf:E.fn g=some F)(hl:args.length=F.np)
  (h:Ex E F.body {vars:=args++List.replicate (F.nv-F.np) .u,base:=[],loc:=[],aR:=false} (o,st1)) (ho:∀ id,o≠.exit id) (hr:finish F st1=some r):Ca E g args r:=by
 obtain⟨n0,h⟩:=h;refine⟨n0,fun n hn => ?_⟩;rw[BM hp hf hl,h n hn];cases o with
 | exit id=>exact absurd rfl (ho id)
 | norm=>exact hr
 | ret=>exact hr
end
end
def LL (l:List Nat):List D:=l.map fun(x:Nat)=>D.v (.int .u32 (x:Int))
def LD (l:List Nat):D:=.s 1 (LL l)
def bI (l:List Nat)(i:Nat):Nat:=(l[i]?).getD 0
def val:List Nat->Nat
 | []=>0
 | x::r=>x+4294967296*val r
def cu (l:List Nat):Prop:=∀ x ∈ l,x<4294967296
theorem wrap_u64 {z:Int}(h:0<=z/\z<18446744073709551616):ak .u64 z=z:=by
 rw[dh];simp only[IntKind.wrap,IntKind.bits,IntKind.signed];simp;omega
theorem wrap_i64 {z:Int}(h:-9223372036854775808<=z/\z<9223372036854775808):ak .i64 z=z:=by
 rw[dh];simp only[IntKind.wrap,IntKind.bits,IntKind.signed];simp;split<;>omega
theorem wrap_u32 {z:Int}(h:0<=z/\z<4294967296):ak .u32 z=z:=by
 rw[dh];simp only[IntKind.wrap,IntKind.bits,IntKind.signed];simp;omega
theorem dQ (z:Int):ak .u32 z=z % 4294967296:=by
 rw[dh];simp only[IntKind.wrap,IntKind.bits,IntKind.signed];simp
theorem gH (z:Int):ak .u64 z=z % 18446744073709551616:=by
 rw[dh];simp only[IntKind.wrap,IntKind.bits,IntKind.signed];simp
theorem idx {α:Type}{es:List α}{k:Nat}{v:α}(h:es[k]?=some v)(h2:k<es.length):es[k]=v:=by
 rw[Qa1 h2]at h;exact Q10 h
def trim:List Nat->List Nat
 | []=>[]
 | x::r=>if trim r=[]/\x=0 then [] else x::trim r
theorem uD:∀ (a:List Nat),trim (a++[0])=trim a
 | []=>by simp[trim]
 | x::r=>by
  rw[Xe0,trim,trim,uD r]
theorem uC:∀ (a:List Nat) (x:Nat),x≠0->trim (a++[x])=a++[x]
 | [],x,h=>by simp[trim,h]
 | y::r,x,h=>by
  rw[Xe0,trim,uC r x h];simp
theorem Me:∀ (a:List Nat),val (trim a)=val a
 | []=>rfl
 | x::r=>by
  have ih:=Me r;rw[trim];split
  ·rename_i h;rw[h.1]at ih;simp only[val]at ih ⊢;omega
  ·simp only[val];rw[ih]
theorem Mf:∀ {a:List Nat},cu a->cu (trim a)
 | [],h=>h
 | x::r,h=>by
  have ih:cu (trim r):=Mf (fun y hy=>h y (Qg2 _ hy));rw[trim];split
  ·intro y hy;cases hy
  ·intro y hy;rcases Qj0.1 hy with rfl|hy
   ·exact h _ (Qj2 ..)
   ·exact ih y hy
theorem r_:∀ (a:List Nat),(trim a).length<=a.length
 | []=>Qe1 _
 | x::r=>by
  have:=r_ r;rw[trim];split<;>simp<;>omega
theorem G7:∀ (a:List Nat),trim (trim a)=trim a
 | []=>rfl
 | x::r=>by
  have ih:=G7 r;rw[trim];split
  ·rfl
  ·rename_i h;rw[trim,ih];rw[if_neg h]
theorem val_inj:∀ {a b:List Nat},cu a->cu b->trim a=a->trim b=b->val a=val b->a=b
 | [],[],_,_,_,_,_=>rfl
 | [],y::s,_,hb,_,tb,h=>by
  exfalso;have hv:val (y::s)=0:=h.symm;simp only[val]at hv;have h0:y=0/\val s=0:=ae;have hs:cu s:=fun z hz=>hb z (Qg2 _ hz)
  rw[trim]at tb;split at tb
  ·cases tb
  ·rename_i hn;simp only[Xu0,true_and]at tb;have:=val_inj (a:=[]) (b:=s) (fun _ h=>by cases h) hs rfl tb (by simp[val,h0.2]);subst this;exact hn ⟨rfl,h0.1⟩
 | x::r,[],ha,_,ta,_,h=>by
  exfalso;have hv:val (x::r)=0:=h;simp only[val]at hv;have h0:x=0/\val r=0:=ae;have hr:cu r:=fun z hz=>ha z (Qg2 _ hz)
  rw[trim]at ta;split at ta
  ·cases ta
  ·rename_i hn;simp only[Xu0,true_and]at ta;have:=val_inj (a:=r) (b:=[]) hr (fun _ h=>by cases h) ta rfl (by simp[val,h0.2]);subst this;exact hn ⟨rfl,h0.1⟩
 | x::r,y::s,ha,hb,ta,tb,h=>by
  simp only[val]at h;have hx:=ha x (Qj2 ..);have hy:=hb y (Qj2 ..);have h0:x=y/\val r=val s:=ae;have hr:cu r:=fun z hz=>ha z (Qg2 _ hz)
  have hs:cu s:=fun z hz=>hb z (Qg2 _ hz)
  have tr:trim r=r:=by
   rw[trim]at ta;split at ta
   ·cases ta
   ·simpa using ta
  have ts:trim s=s:=by
   rw[trim]at tb;split at tb
   ·cases tb
   ·simpa using tb
  rw[h0.1,val_inj hr hs tr ts h0.2]
def enc (n:Nat):List Nat:=if n=0 then [] else n % 4294967296::enc (n / 4294967296)
termination_by n
theorem a_ (n:Nat):val (enc n)=n:=by
 induction n using Nat.strongRecOn with
 | ind n ih =>
  rw[enc];split
  ·subst_vars;rfl
  ·rename_i h;simp only[val];rw[ih _ ae];omega
theorem aW (n:Nat):cu (enc n):=by
 induction n using Nat.strongRecOn with
 | ind n ih =>
  rw[enc];split
  ·intro x hx;cases hx
  ·intro x hx;rcases Qj0.1 hx with rfl|hx
   ·exact Qw0 _ ae
   ·exact ih _ ae x hx
theorem eF {n:Nat}:enc n=[]↔n=0:=by
 rw[enc];split<;>simp[*]
theorem JF (n:Nat):trim (enc n)=enc n:=by
 induction n using Nat.strongRecOn with
 | ind n ih =>
  rw[enc];split
  ·rfl
  ·rename_i h;rw[trim,ih _ ae,if_neg];rintro⟨h1,h2⟩;rw[eF]at h1;omega
theorem dm {a:List Nat}(h:cu a):trim a=enc (val a) :=
 val_inj (Mf h) (aW _) (G7 a) (JF _) (by rw[Me,a_])
theorem jr (l:List Nat)(k:Nat):val (l.drop k)=bI l k+4294967296*val (l.drop (k+1)):=by
 unfold bI
 by_cases h:k<l.length
 ·rw[Qk1 h,Qa1 h];simp[val]
 ·rw[Xq1 ae,Xq1 ae,Qq0 ae];simp[val]
theorem val_append:∀ (o:List Nat) (d:List Nat),val (o++d)=val o+4294967296 ^ o.length*val d
 | [],d=>by simp[val]
 | x::r,d=>by
  rw[Xe0,val,val,val_append r d,Qf1,Qn2];grind
theorem iT {l:List Nat}{k:Nat}(h:l.length<=k):val (l.drop k)=0:=by
 rw[Xq1 h];rfl
theorem oK:∀ {l:List Nat},cu l->val l<4294967296 ^ l.length
 | [],_=>by simp[val]
 | x::r,h=>by
  have h1:=oK (l:=r) (fun y hy=>h y (Qg2 _ hy));have h2:=h x (Qj2 ..);rw[val,Qf1,Qn2];generalize 4294967296 ^ r.length=p at*;omega
theorem iQ {a b:List Nat}(ha:cu a)(hb:cu b):cu (a++b):=by
 intro x hx;rcases Qw2.1 hx with h|h
 ·exact ha x h
 ·exact hb x h
def cK (l:List Nat)(k:Nat):Nat:=val (l.take k)
theorem eP (l:List Nat)(k:Nat):cK l (k+1)=cK l k+4294967296 ^ k*bI l k:=by
 unfold cK bI
 by_cases h:k<l.length
 ·rw[Qi1 h,val_append,Qk0,Xt2 ae,Qa1 h];simp[val]
 ·rw[Qe0 ae,Qe0 ae,Qq0 ae];simp
theorem o7 {l:List Nat}(h:cu l)(k:Nat):cK l k<4294967296 ^ k:=by
 have h1:cu (l.take k):=fun x hx=>h x (Qo1 hx)
 refine Ql0 (oK h1) (Qu1 ae ?_);simp only[Qk0];omega
theorem fU {l:List Nat}{k:Nat}(h:l.length<=k):cK l k=val l:=by unfold cK;rw[Qe0 h]
theorem jW {va vb P x y:Nat}(h1:va<P)(h:x<y):va+P*x<vb+P*y:=by
 have:P*x+P<=P*y:=by rw[<-Nat.mul_succ];exact Qz1 _ h
 omega
def row0 (o:List Nat)(m:Nat):List Nat:=o++List.replicate m 0
theorem O9 (o:List Nat)(m:Nat):(LL (row0 o (m+1)))[o.length]?=some (.v (.int .u32 0)):=by
 simp[LL,row0,Qb1]
theorem Jr (o:List Nat)(m v:Nat):(LL (row0 o (m+1))).set o.length (.v (.int .u32 (v:Int)))=LL (row0 (o++[v]) m):=by
 simp[LL,row0,Qx1,Xb0]
theorem rY (o:List Nat)(m:Nat):(LL (row0 o m)).length=o.length+m:=by simp[LL,row0]
theorem xk (m:Nat):LL (row0 [] m)=List.replicate m (.v (.int .u32 0)):=by simp[LL,row0]
theorem FI (o:List Nat):row0 o 0=o:=by simp[row0]
theorem bL {m n:Nat}(h:m<=n):(enc m).length<=(enc n).length:=by
 induction n using Nat.strongRecOn generalizing m with
 | ind n ih =>
  rw[enc];split
  ·simp
  ·rename_i h0
   conv=>rhs;rw[enc]
   rw[if_neg ae];simp only[Qf1];have:=@ih (n / 4294967296) ae (m / 4294967296) ae;omega
abbrev vI (n : Int) : D := .v (.int .i64 n)
abbrev vB (b : Bool) : D := .v (.bool b)
abbrev dI (n : Int) : FV := .d (.v (.int .i64 n))
abbrev dB (b : Bool) : FV := .d (.v (.bool b))
abbrev rL (i : Nat) : FV := .r (.loc i) 0
theorem nx {E : Env} {c : aG} {s t : St} (_ : Ex E c s (.norm, t)) (d : aG) (u : St) (h : Ex E d t (.norm, u)) : Ex E d t (.norm, u) := h
theorem e6 {E : Env} {c : aG} {s : St} {r : Out × St} (h : EX E 60 c s = some r) : Ex E c s r := Ex.of h
theorem wI {x : Int} (h : -9223372036854775808 <= x /\ x < 9223372036854775808 := by omega) : ak .i64 x = x := wrap_i64 h
abbrev u3K : List FV := [.u,.u,.u]
abbrev rJ : List FV := [.u,.u,.u,.u]
abbrev jP : List FV := [.u,.u,.u,.u,.u]
abbrev rM : List FV := [.u,.u,.u,.u,.u,.u]
abbrev qi : List FV := [.u,.u,.u,.u,.u,.u,.u]
abbrev xh : List FV := [.u,.u,.u,.u,.u,.u,.u,.u]
abbrev Jh : List FV := [.u,.u,.u,.u,.u,.u,.u,.u,.u]
abbrev qj : List FV := [.u,.u,.u,.u,.u,.u,.u,.u,.u,.u]
abbrev Mw : List FV := [.u,.u,.u,.u,.u,.u,.u,.u,.u,.u,.u]
abbrev BZ : List FV := [.u,.u,.u,.u,.u,.u,.u,.u,.u,.u,.u,.u]
abbrev Jm : List FV := [.u,.u,.u,.u,.u,.u,.u,.u,.u,.u,.u,.u,.u]
abbrev G9 : List FV := [.u,.u,.u,.u,.u,.u,.u,.u,.u,.u,.u,.u,.u,.u]
abbrev agN : List FV := [.u,.u,.u,.u,.u,.u,.u,.u,.u,.u,.u,.u,.u,.u,.u]
abbrev Zq : List FV := [.u,.u,.u,.u,.u,.u,.u,.u,.u,.u,.u,.u,.u,.u,.u,.u,.u]
abbrev agO : List FV := [.u,.u,.u,.u,.u,.u,.u,.u,.u,.u,.u,.u,.u,.u,.u,.u,.u,.u]

end Fi
