/- Data compared; the interpreter sealed; limbs; rules for loops. -/
import Derived.Test.YtonmcbnjifeagaaGreatDoorFiE
set_option linter.unusedVariables false
set_option linter.unusedSimpArgs false
namespace Fi
open Go
def sameK:IntKind->IntKind->Bool
 | .i8,.i8 | .i16,.i16 | .i32,.i32 | .i64,.i64 | .u8,.u8 | .u16,.u16 | .u32,.u32 | .u64,.u64=>true
 | _,_=>false
theorem sameK_eq {a b:IntKind}(h:sameK a b=true):a=b:=by cases a<;>cases b<;>first|rfl|cases h
def sameI:Int->Int->Bool
 | .ofNat a,.ofNat b=>Nat.beq a b
 | .negSucc a,.negSucc b=>Nat.beq a b
 | _,_=>false
theorem sameI_eq {a b:Int}(h:sameI a b=true):a=b:=by
 cases a<;>cases b<;>simp only[sameI]at h<;>first|(cases h;done)|(rw[Nat.eq_of_beq_eq_true h])
def sameV:Value->Value->Bool
 | .int k a,.int k' b=>sameK k k'&&sameI a b
 | .bool a,.bool b=>a==b
 | _,_=>false
theorem sameV_eq {a b:Value}(h:sameV a b=true):a=b:=by
 unfold sameV at h;split at h
 ·simp only[Bool.and_eq_true]at h;rw[sameK_eq h.1,sameI_eq h.2]
 ·rw[eq_of_beq h]
 ·cases h
mutual
def sameD:D->D->Bool
 | .v x,.v y=>sameV x y
 | .fn a,.fn b=>Nat.beq a b
 | .n a,.n b=>Nat.beq a b
 | .i,.i=>true
 | .s a xs,.s b ys=>Nat.beq a b&&sameL xs ys
 | .a xs,.a ys=>sameL xs ys
 | .t xs,.t ys=>sameL xs ys
 | _,_=>false
def sameL:List D->List D->Bool
 | [],[]=>true
 | x::xs,y::ys=>sameD x y&&sameL xs ys
 | _,_=>false
end
mutual
theorem sameD_eq:∀ {x y:D},sameD x y=true->x=y
 | .v x,y,h=>by
  cases y<;>simp only[sameD]at h<;>first|(cases h;done)|(rw[sameV_eq h])
 | .fn a,y,h=>by
  cases y<;>simp only[sameD]at h<;>first|(cases h;done)|(rw[Nat.eq_of_beq_eq_true h])
 | .n a,y,h=>by
  cases y<;>simp only[sameD]at h<;>first|(cases h;done)|(rw[Nat.eq_of_beq_eq_true h])
 | .i,y,h=>by
  cases y<;>simp only[sameD]at h<;>first|(cases h;done)|rfl
 | .s a xs,y,h=>by
  cases y<;>simp only[sameD]at h<;>first|(cases h;done)|skip
  simp only[Bool.and_eq_true]at h;rw[Nat.eq_of_beq_eq_true h.1,sameL_eq h.2]
 | .a xs,y,h=>by
  cases y<;>simp only[sameD]at h<;>first|(cases h;done)|(rw[sameL_eq h])
 | .t xs,y,h=>by
  cases y<;>simp only[sameD]at h<;>first|(cases h;done)|(rw[sameL_eq h])
theorem sameL_eq:∀ {xs ys:List D},sameL xs ys=true->xs=ys
 | [],ys,h=>by
  cases ys with
  | nil=>rfl
  | cons _ _=>simp only[sameL]at h;cases h
 | x::xs,ys,h=>by
  cases ys with
  | nil=>simp only[sameL]at h;cases h
  | cons y ys =>
   simp only[sameL,Bool.and_eq_true]at h;rw[sameD_eq h.1,sameL_eq h.2]
end
def isDa (r:CallR)(x:D):Bool:=match r with
 | some (.d y,none)=>sameD y x
 | _=>false
theorem of_isDa {r:CallR}{x:D}(h:isDa r x=true):r=some (.d x,none):=by
 unfold isDa at h;split at h
 ·rw[sameD_eq h]
 ·cases h
theorem all_at {n:Nat}{f:Nat->Bool}(h:(List.range n).all f=true){i:Nat}(hi:i<n):f i=true:=List.all_eq_true.1 h i (List.mem_range.2 hi)
section
theorem sealed_ex {α:Sort _}(a:α):∃ z,z=a:=⟨a,rfl⟩
noncomputable def sealedF {α:Sort _} (a:α):α:=Classical.choose (sealed_ex a)
theorem sealedF_eq {α:Sort _}(a:α):sealedF a=a:=Classical.choose_spec (sealed_ex a)
noncomputable def EX (E:Env) (n:Nat) (c:FStmt) (st:St):Option (Out × St):=sealedF (exec E n c st)
noncomputable def CL (E:Env) (n:Nat) (g:Nat) (args:List FV) (B:List AObj):CallR:=sealedF (callN E n g args B)
noncomputable def ROps (E:Env) (rec:Nat->List FV->List AObj->CallR) (ops:List FOp) (st:St) (env:List FV):Option (St × List FV):=sealedF (runOps E rec ops st env)
noncomputable def RK (E:Env) (rec:Nat->List FV->List AObj->CallR) (draw:Bool) (st:St) (env:List FV) (k:K):Option (FV × St):=sealedF (runK E rec draw st env k)
noncomputable def binS (op:BinOp) (x y:Value):Option Value:=sealedF (binV op x y)
noncomputable def wrapS (k:IntKind) (z:Int):Int:=sealedF (k.wrap z)
theorem EX_eq (E:Env)(n:Nat)(c:FStmt)(st:St):EX E n c st=exec E n c st:=sealedF_eq _
theorem CL_eq (E:Env)(n g:Nat)(args:List FV)(B:List AObj):CL E n g args B=callN E n g args B:=sealedF_eq _
theorem ROps_eq (E:Env)(rec:Nat->List FV->List AObj->CallR)(ops:List FOp)(st:St)(env:List FV):ROps E rec ops st env=runOps E rec ops st env:=sealedF_eq _
theorem RK_eq (E:Env)(rec:Nat->List FV->List AObj->CallR)(draw:Bool)(st:St)(env:List FV)(k:K):RK E rec draw st env k=runK E rec draw st env k:=sealedF_eq _
theorem binS_eq (op:BinOp)(x y:Value):binS op x y=binV op x y:=sealedF_eq _
theorem wrapS_eq (k:IntKind)(z:Int):wrapS k z=k.wrap z:=sealedF_eq _
theorem CL_fun (E:Env)(n:Nat):CL E n=callN E n:=by funext g args B;exact CL_eq E n g args B
section
variable {E:Env} {n:Nat} {st:St}
theorem EX_skip:EX E (n+1) .skip st=some (.norm,st):=by rw[EX_eq];rfl
theorem EX_ret:EX E (n+1) .ret st=some (.ret,st):=by rw[EX_eq];rfl
theorem EX_exit {id:Nat}:EX E (n+1) (.exit id) st=some (.exit id,st):=by rw[EX_eq];rfl
theorem EX_kill {js:List Nat}:EX E (n+1) (.kill js) st=some (.norm,{st with vars:=killVars st.vars js}):=by rw[EX_eq];rfl
theorem EX_seq {a b : FStmt} : EX E (n + 1) (.seq a b) st = match EX E n a st with
      | some (.norm, st') => EX E n b st'
      | r => r := by
 simp only[EX_eq];rfl
theorem EX_cond {x : Arg} {a b : FStmt} : EX E (n + 1) (.cond x a b) st = match argV E st [] x with
      | some (.d (.v (.bool t))) => EX E n (if t then a else b) st
      | _ => none := by
 simp only[EX_eq];rfl
theorem EX_block {id : Nat} {b : FStmt} : EX E (n + 1) (.block id b) st = match EX E n b st with
      | some (.exit id', st') => if id' = id then some (.norm, st') else some (.exit id', st')
      | r => r := by
 simp only[EX_eq];rfl
theorem EX_loop {b : FStmt} : EX E (n + 1) (.loop b) st = match EX E n b st with
      | some (.norm, st') => EX E n (.loop b) st'
      | r => r := by
 simp only[EX_eq];rfl
theorem EX_region {ops:List FOp}{outs apart:List (Nat × Nat)}:EX E (n+1) (.region ops outs apart) st =
  if apartOk st apart then(match ROps E (CL E n) ops st [] with
   | some (st',env)=>some (.norm,{st' with vars:=setVars st'.vars env outs})
   | none=>none) else none:=by
 simp only[EX_eq,ROps_eq,CL_fun];rfl
variable {rec:Nat->List FV->List AObj->CallR} {env:List FV} {draw:Bool}
theorem ROps_nil:ROps E rec [] st env=some (st,env):=by rw[ROps_eq];rfl
theorem ROps_cons {o:FOp}{rest:List FOp}:ROps E rec (o::rest) st env=match guardV env o.guard with
  | none=>none
  | some false=>ROps E rec rest st (env++[.d (.t [])])
  | some true=>match RK E rec o.q st env o.k with
   | none=>none
   | some (v,st')=>ROps E rec rest st' (env++[v]):=by
 simp only[ROps_eq,RK_eq];rfl
theorem RK_mov {x:Arg}:RK E rec draw st env (.mov x)=match argV E st env x with
  | some v=>some (v,st)
  | none=>none:=by rw[RK_eq];rfl
theorem RK_pick {c a b:Arg}:RK E rec draw st env (.pick c a b)=match argV E st env c with
  | some (.d (.v (.bool t)))=>match argV E st env (if t then a else b) with
   | some v=>some (v,st)
   | none=>none
  | _=>none:=by rw[RK_eq];rfl
theorem RK_bin {op:BinOp}{x y:Arg}:RK E rec draw st env (.bin op x y)=match argV E st env x,argV E st env y with
  | some (.d (.v p)),some (.d (.v q))=>match binS op p q with
   | some v=>some (.d (.v v),st)
   | none=>none
  | _,_=>none:=by simp only[RK_eq,binS_eq];rfl
theorem RK_conv {k:IntKind}{x:Arg}:RK E rec draw st env (.conv k x)=match argV E st env x with
  | some (.d (.v (.int _ n)))=>some (.d (.v (.int k (wrapS k n))),st)
  | _=>none:=by simp only[RK_eq,wrapS_eq];rfl
theorem RK_beq {neg:Bool}{x y:Arg}:RK E rec draw st env (.beq neg x y)=runK E rec draw st env (.beq neg x y):=RK_eq ..
theorem RK_aeq {neg:Bool}{l:Nat}{x y:Arg}:RK E rec draw st env (.aeq neg l x y)=runK E rec draw st env (.aeq neg l x y):=RK_eq ..
theorem RK_nileq {k:Nat}{neg:Bool}{x:Arg}:RK E rec draw st env (.nileq k neg x)=runK E rec draw st env (.nileq k neg x):=RK_eq ..
theorem RK_un {op:UnOp}{x:Arg}:RK E rec draw st env (.un op x)=runK E rec draw st env (.un op x):=RK_eq ..
theorem RK_box {x:Arg}:RK E rec draw st env (.box x)=runK E rec draw st env (.box x):=RK_eq ..
theorem RK_new {z:List D}:RK E rec draw st env (.new z)=runK E rec draw st env (.new z):=RK_eq ..
theorem RK_load {agg:Bool}{n:Nat}{p:Arg}:RK E rec draw st env (.load agg n p)=runK E rec draw st env (.load agg n p):=RK_eq ..
theorem RK_store {n:Nat}{p x:Arg}:RK E rec draw st env (.store n p x)=runK E rec draw st env (.store n p x):=RK_eq ..
theorem RK_faddr {off:Nat}{agg:Bool}{n:Nat}{p:Arg}:RK E rec draw st env (.faddr off agg n p)=runK E rec draw st env (.faddr off agg n p):=RK_eq ..
theorem RK_field {off:Nat}{agg:Bool}{n:Nat}{p:Arg}:RK E rec draw st env (.field off agg n p)=runK E rec draw st env (.field off agg n p):=RK_eq ..
theorem RK_iaddr {sz:Nat}{x i:Arg}:RK E rec draw st env (.iaddr sz x i)=runK E rec draw st env (.iaddr sz x i):=RK_eq ..
theorem RK_aaddr {len sz:Nat}{agg:Bool}{x i:Arg}:RK E rec draw st env (.aaddr len sz agg x i)=runK E rec draw st env (.aaddr len sz agg x i):=RK_eq ..
theorem RK_index {len sz:Nat}{agg:Bool}{x i:Arg}:RK E rec draw st env (.index len sz agg x i)=runK E rec draw st env (.index len sz agg x i):=RK_eq ..
theorem RK_build {z:List D}{ps:List (Nat × Nat × Arg)}:RK E rec draw st env (.build z ps)=runK E rec draw st env (.build z ps):=RK_eq ..
theorem RK_lit {sz:Nat}{agg:Bool}{z:List D}{len:Nat}{ps:List (Nat × Arg)}:RK E rec draw st env (.lit sz agg z len ps)=runK E rec draw st env (.lit sz agg z len ps):=RK_eq ..
theorem RK_len {x:Arg}:RK E rec draw st env (.len x)=runK E rec draw st env (.len x):=RK_eq ..
theorem RK_maxi {x y:Arg}:RK E rec draw st env (.maxi x y)=runK E rec draw st env (.maxi x y):=RK_eq ..
theorem RK_mini {x y:Arg}:RK E rec draw st env (.mini x y)=runK E rec draw st env (.mini x y):=RK_eq ..
theorem RK_app {sz b:Nat}{x y:Arg}:RK E rec draw st env (.app sz b x y)=runK E rec draw st env (.app sz b x y):=RK_eq ..
theorem RK_slice {sz:Nat}{x:Arg}{lo hi:Option Arg}:RK E rec draw st env (.slice sz x lo hi)=runK E rec draw st env (.slice sz x lo hi):=RK_eq ..
theorem RK_mk {sz b:Nat}{agg:Bool}{z:List D}{len cap:Arg}:RK E rec draw st env (.mk sz b agg z len cap)=runK E rec draw st env (.mk sz b agg z len cap):=RK_eq ..
theorem RK_ext {x:Arg}{i:Nat}:RK E rec draw st env (.ext x i)=runK E rec draw st env (.ext x i):=RK_eq ..
theorem RK_clo {g:Nat}{a b:List Arg}:RK E rec draw st env (.clo g a b)=runK E rec draw st env (.clo g a b):=RK_eq ..
theorem RK_callr {g:Nat}{args:List Arg}:RK E rec draw st env (.callr g args)=runK E rec draw st env (.callr g args):=RK_eq ..
theorem RK_cap {x:Arg}:RK E rec draw st env (.cap x)=runK E rec draw st env (.cap x):=RK_eq ..
theorem RK_appz {sz b:Nat}{agg:Bool}{z:List D}{x n:Arg}:RK E rec draw st env (.appz sz b agg z x n)=runK E rec draw st env (.appz sz b agg z x n):=RK_eq ..
theorem RK_mkmap:RK E rec draw st env .mkmap=runK E rec draw st env .mkmap:=RK_eq ..
theorem RK_mget {ok:Bool}{kind:Nat}{z:D}{m k:Arg}:RK E rec draw st env (.mget ok kind z m k)=runK E rec draw st env (.mget ok kind z m k):=RK_eq ..
theorem RK_mput {kind:Nat}{m k x:Arg}:RK E rec draw st env (.mput kind m k x)=runK E rec draw st env (.mput kind m k x):=RK_eq ..
theorem RK_sindex {x i:Arg}:RK E rec draw st env (.sindex x i)=runK E rec draw st env (.sindex x i):=RK_eq ..
theorem RK_slen {x:Arg}:RK E rec draw st env (.slen x)=runK E rec draw st env (.slen x):=RK_eq ..
theorem RK_sslice {x:Arg}{lo hi:Option Arg}:RK E rec draw st env (.sslice x lo hi)=runK E rec draw st env (.sslice x lo hi):=RK_eq ..
theorem RK_call {g:Nat}{args:List Arg}:RK E rec draw st env (.call g args)=runK E rec draw st env (.call g args):=RK_eq ..
theorem RK_callw {f:Arg}{args ps:List Arg}:RK E rec draw st env (.callw f args ps)=runK E rec draw st env (.callw f args ps):=RK_eq ..
theorem RK_loadl {agg:Bool}{n:Nat}{p:Arg}:RK E rec draw st env (.loadl agg n p)=runK E rec draw st env (.loadl agg n p):=RK_eq ..
theorem RK_callv {f:Arg}{args:List Arg}:RK E rec draw st env (.callv f args)=runK E rec draw st env (.callv f args):=RK_eq ..
variable {k k':IntKind} {a b:Int}
theorem s_add:binS .add (.int k a) (.int k b)=some (.int k (wrapS k (a+b))):=by rw[binS_eq,wrapS_eq,b_add]
theorem s_sub:binS .sub (.int k a) (.int k b)=some (.int k (wrapS k (a-b))):=by rw[binS_eq,wrapS_eq,b_sub]
theorem s_mul:binS .mul (.int k a) (.int k b)=some (.int k (wrapS k (a*b))):=by rw[binS_eq,wrapS_eq,b_mul]
theorem s_quo:binS .quo (.int k a) (.int k b)=if b=0 then none else some (.int k (wrapS k (a.tdiv b))):=by rw[binS_eq,wrapS_eq,b_quo]
theorem s_rem:binS .rem (.int k a) (.int k b)=if b=0 then none else some (.int k (a.tmod b)):=by rw[binS_eq,b_rem]
theorem s_or:binS .or (.int k a) (.int k b)=some (.int k (orV k a b)):=by rw[binS_eq,b_or]
theorem s_and:binS .and (.int k a) (.int k b)=some (.int k (andV k a b)):=by rw[binS_eq,b_and]
theorem s_xor:binS .xor (.int k a) (.int k b)=some (.int k (xorV k a b)):=by rw[binS_eq,b_xor]
theorem s_shl:binS .shl (.int k a) (.int k' b)=if b<0 then none else some (.int k (shlV k a b)):=by rw[binS_eq,b_shl]
theorem s_shr:binS .shr (.int k a) (.int k' b)=if b<0 then none else some (.int k (a.fdiv (2 ^ (min b.toNat k.bits)))):=by rw[binS_eq,b_shr]
theorem s_eql:binS .eql (.int k a) (.int k b)=some (.bool (a==b)):=by rw[binS_eq,b_eql]
theorem s_neq:binS .neq (.int k a) (.int k b)=some (.bool (a != b)):=by rw[binS_eq,b_neq]
theorem s_lss:binS .lss (.int k a) (.int k b)=some (.bool (decide (a<b))):=by rw[binS_eq,b_lss]
theorem s_leq:binS .leq (.int k a) (.int k b)=some (.bool (decide (a<=b))):=by rw[binS_eq,b_leq]
theorem s_gtr:binS .gtr (.int k a) (.int k b)=some (.bool (decide (b<a))):=by rw[binS_eq,b_gtr]
theorem s_geq:binS .geq (.int k a) (.int k b)=some (.bool (decide (b<=a))):=by rw[binS_eq,b_geq]
theorem CL_fn {g:Nat}{F:FFunc}{args:List FV}{B:List AObj}(hp:E.prim g=none)(hf:E.fn g=some F)(hl:args.length=F.np) :
  CL E n g args B=match EX E n F.body {vars:=args++List.replicate (F.nv-F.np) .u,base:=B,loc:=[],dirty:=false} with
    | some (.exit _,_)=>none
    | some (_,st')=>finish F st'
    | none=>none:=by
 rw[CL_eq,EX_eq,call_fn hp hf hl];rfl
end
theorem CL_primB {E:Env}{n g:Nat}{p:List FV->List AObj->CallR}{args:List FV}{B:List AObj}(hp:E.prim g=none)(hf:E.fn g=none)(hB:E.primB g=some p) :
  CL E n g args B=match p args B with
    | some (v,some B')=>if B.length<=B'.length then some (v,some B') else none
    | r=>r:=by
 rw[CL_eq,call_primB hp hf hB];rfl
theorem CL_mono {E:Env}{n m g:Nat}{args:List FV}{B:List AObj}{x:FV × Option (List AObj)}(hx:CL E n g args B=some x)(hm:n<=m):CL E m g args B=some x:=by
 rw[CL_eq]at hx ⊢;exact call_mono hx hm
theorem Ca.ofS {E:Env}{n g:Nat}{args:List FV}{r:FV × Option (List AObj)}(h:CL E n g args []=some r):Ca E g args r:=Ca.of (by rw[<-CL_eq];exact h)
theorem Ca.get {E:Env}{g:Nat}{args:List FV}{r:FV × Option (List AObj)}(h:Ca E g args r):∃ n0,∀ k,CL E (n0+k) g args []=some r:=by
 obtain⟨n0,h⟩:=h;exact⟨n0,fun k=>by rw[CL_eq];exact h _ (by omega)⟩
theorem Ca.any {E:Env}{g:Nat}{args:List FV}{r:FV × Option (List AObj)}(h:Ca E g args r):∃ n0,∀ n,n0<=n->∀ k,CL E (n+k) g args []=some r:=by
 obtain⟨n0,h⟩:=h;exact⟨n0,fun n hn k=>by rw[CL_eq];exact h _ (by omega)⟩
end
section
def FStmt.l:FStmt->FStmt
 | .seq a _=>a
 | _=>.skip
def FStmt.r:FStmt->FStmt
 | .seq _ b=>b
 | _=>.skip
def FStmt.bl:FStmt->FStmt
 | .block _ b=>b
 | _=>.skip
def FStmt.lp:FStmt->FStmt
 | .loop b=>b
 | _=>.skip
def Ex (E:Env)(c:FStmt)(st:St)(r:Out × St):Prop:=∃ n0,∀ n,n0<=n->exec E n c st=some r
section
variable {E:Env} {st st1 st2:St}
theorem Ex.of {n:Nat}{c:FStmt}{r:Out × St}(h:EX E n c st=some r):Ex E c st r:=⟨n,fun _ hm=>exec_mono (by rw[<-EX_eq];exact h) hm⟩
theorem Ex.next {b:FStmt}{r:Out × St}(h1:Ex E b st (.norm,st1))(h2:Ex E (.loop b) st1 r):Ex E (.loop b) st r:=by
 obtain⟨n1,h1⟩:=h1;obtain⟨n2,h2⟩:=h2;refine⟨n1+n2+1,fun n hn => ?_⟩;obtain⟨m,rfl⟩:∃ m,n=m+1:=⟨n-1,by omega⟩
 rw[exec_loop,h1 m (by omega)];exact h2 m (by omega)
theorem Ex.out {b:FStmt}{o:Out}(h1:Ex E b st (o,st1))(ho:o≠.norm):Ex E (.loop b) st (o,st1):=by
 obtain⟨n1,h1⟩:=h1;refine⟨n1+1,fun n hn => ?_⟩;obtain⟨m,rfl⟩:∃ m,n=m+1:=⟨n-1,by omega⟩
 rw[exec_loop,h1 m (by omega)];cases o with
 | norm=>exact absurd rfl ho
 | exit id=>rfl
 | ret=>rfl
theorem Ex.leave {b:FStmt}{r:Out × St}(h1:Ex E b st r)(ho:r.1≠.norm):Ex E (.loop b) st r:=Ex.out (o:=r.1) (st1:=r.2) h1 ho
theorem Ex.while {α:Type}{b:FStmt}(S:α->St)(μ:α->Nat)(R:α->Out × St)
  (step:∀ a,(∃ a',Ex E b (S a) (.norm,S a')/\μ a'<μ a/\R a'=R a)\/(Ex E b (S a) (R a)/\(R a).1≠.norm)) :
  ∀ a,Ex E (.loop b) (S a) (R a):=by
 intro a
 induction h:μ a using Nat.strongRecOn generalizing a with
 | ind k ih =>
  rcases step a with ⟨a',h1,h2,h3⟩|⟨h1,h2⟩
  ·have:=ih (μ a') (by omega) a' rfl;rw[h3]at this;exact h1.next this
  ·exact h1.out h2
theorem Ex.inv {α:Type}{b:FStmt}(S:α->St)(μ:α->Nat)(I:α->Prop)(Q:Out × St->Prop)
  (step:∀ a,I a->(∃ a',Ex E b (S a) (.norm,S a')/\μ a'<μ a/\I a')\/(∃ r,Ex E b (S a) r/\r.1≠.norm/\Q r)) :
  ∀ a,I a->∃ r,Ex E (.loop b) (S a) r/\Q r:=by
 intro a ha
 induction h:μ a using Nat.strongRecOn generalizing a with
 | ind k ih =>
  rcases step a ha with ⟨a',h1,h2,h3⟩|⟨r,h1,h2,h3⟩
  ·obtain⟨r,h4,h5⟩:=ih (μ a') (by omega) a' h3 rfl;exact⟨r,h1.next h4,h5⟩
  ·exact⟨r,h1.leave h2,h3⟩
theorem Ex.seq {a b:FStmt}{r:Out × St}(h1:Ex E a st (.norm,st1))(h2:Ex E b st1 r):Ex E (.seq a b) st r:=by
 obtain⟨n1,h1⟩:=h1;obtain⟨n2,h2⟩:=h2;refine⟨n1+n2+1,fun n hn => ?_⟩;obtain⟨m,rfl⟩:∃ m,n=m+1:=⟨n-1,by omega⟩
 rw[exec_seq,h1 m (by omega)];exact h2 m (by omega)
theorem Ex.block {id:Nat}{b:FStmt}(h1:Ex E b st (.exit id,st1)):Ex E (.block id b) st (.norm,st1):=by
 obtain⟨n1,h1⟩:=h1;refine⟨n1+1,fun n hn => ?_⟩;obtain⟨m,rfl⟩:∃ m,n=m+1:=⟨n-1,by omega⟩
 rw[exec_block,h1 m (by omega)];simp
theorem Ex.block_norm {id:Nat}{b:FStmt}(h1:Ex E b st (.norm,st1)):Ex E (.block id b) st (.norm,st1):=by
 obtain⟨n1,h1⟩:=h1;refine⟨n1+1,fun n hn => ?_⟩;obtain⟨m,rfl⟩:∃ m,n=m+1:=⟨n-1,by omega⟩
 rw[exec_block,h1 m (by omega)]
theorem Ex.block_ret {id:Nat}{b:FStmt}(h1:Ex E b st (.ret,st1)):Ex E (.block id b) st (.ret,st1):=by
 obtain⟨n1,h1⟩:=h1;refine⟨n1+1,fun n hn => ?_⟩;obtain⟨m,rfl⟩:∃ m,n=m+1:=⟨n-1,by omega⟩
 rw[exec_block,h1 m (by omega)]
theorem Ex.seq_ret {a b:FStmt}(h1:Ex E a st (.ret,st1)):Ex E (.seq a b) st (.ret,st1):=by
 obtain⟨n1,h1⟩:=h1;refine⟨n1+1,fun n hn => ?_⟩;obtain⟨m,rfl⟩:∃ m,n=m+1:=⟨n-1,by omega⟩
 rw[exec_seq,h1 m (by omega)]
theorem Ca.body {g:Nat}{F:FFunc}{args:List FV}{o:Out}{r:FV × Option (List AObj)}(hp:E.prim g=none)(hf:E.fn g=some F)(hl:args.length=F.np)
  (h:Ex E F.body {vars:=args++List.replicate (F.nv-F.np) .u,base:=[],loc:=[],dirty:=false} (o,st1)) (ho:∀ id,o≠.exit id) (hr:finish F st1=some r):Ca E g args r:=by
 obtain⟨n0,h⟩:=h;refine⟨n0,fun n hn => ?_⟩;rw[call_fn hp hf hl,h n hn];cases o with
 | exit id=>exact absurd rfl (ho id)
 | norm=>exact hr
 | ret=>exact hr
end
end
def lim (x:Nat):D:=.v (.int .u32 (x:Int))
def LL (l:List Nat):List D:=l.map fun(x:Nat)=>D.v (.int .u32 (x:Int))
def LD (l:List Nat):D:=.s 1 (LL l)
def at0 (l:List Nat)(i:Nat):Nat:=(l[i]?).getD 0
def val:List Nat->Nat
 | []=>0
 | x::r=>x+4294967296*val r
def Lim (l:List Nat):Prop:=∀ x ∈ l,x<4294967296
theorem wrap_u64 {z:Int}(h:0<=z/\z<18446744073709551616):wrapS .u64 z=z:=by
 rw[wrapS_eq];simp only[IntKind.wrap,IntKind.bits,IntKind.signed];simp;omega
theorem wrap_i64 {z:Int}(h:-9223372036854775808<=z/\z<9223372036854775808):wrapS .i64 z=z:=by
 rw[wrapS_eq];simp only[IntKind.wrap,IntKind.bits,IntKind.signed];simp;split<;>omega
theorem wrap_u32 {z:Int}(h:0<=z/\z<4294967296):wrapS .u32 z=z:=by
 rw[wrapS_eq];simp only[IntKind.wrap,IntKind.bits,IntKind.signed];simp;omega
theorem wrap_u32_mod (z:Int):wrapS .u32 z=z % 4294967296:=by
 rw[wrapS_eq];simp only[IntKind.wrap,IntKind.bits,IntKind.signed];simp
theorem wrap_u64_mod (z:Int):wrapS .u64 z=z % 18446744073709551616:=by
 rw[wrapS_eq];simp only[IntKind.wrap,IntKind.bits,IntKind.signed];simp
theorem idx {α:Type}{es:List α}{k:Nat}{v:α}(h:es[k]?=some v)(h2:k<es.length):es[k]=v:=by
 rw[List.getElem?_eq_getElem h2]at h;exact Option.some.inj h
def trim:List Nat->List Nat
 | []=>[]
 | x::r=>if trim r=[]/\x=0 then [] else x::trim r
theorem trim_zero:∀ (a:List Nat),trim (a++[0])=trim a
 | []=>by simp[trim]
 | x::r=>by
  rw[List.cons_append,trim,trim,trim_zero r]
theorem trim_last:∀ (a:List Nat) (x:Nat),x≠0->trim (a++[x])=a++[x]
 | [],x,h=>by simp[trim,h]
 | y::r,x,h=>by
  rw[List.cons_append,trim,trim_last r x h];simp
theorem val_trim:∀ (a:List Nat),val (trim a)=val a
 | []=>rfl
 | x::r=>by
  have ih:=val_trim r;rw[trim];split
  ·rename_i h;rw[h.1]at ih;simp only[val]at ih ⊢;omega
  ·simp only[val];rw[ih]
theorem lim_trim:∀ {a:List Nat},Lim a->Lim (trim a)
 | [],h=>h
 | x::r,h=>by
  have ih:Lim (trim r):=lim_trim (fun y hy=>h y (List.mem_cons_of_mem _ hy));rw[trim];split
  ·intro y hy;cases hy
  ·intro y hy;rcases List.mem_cons.1 hy with rfl|hy
   ·exact h _ (List.mem_cons_self ..)
   ·exact ih y hy
theorem length_trim:∀ (a:List Nat),(trim a).length<=a.length
 | []=>Nat.le_refl _
 | x::r=>by
  have:=length_trim r;rw[trim];split<;>simp<;>omega
theorem trim_trim:∀ (a:List Nat),trim (trim a)=trim a
 | []=>rfl
 | x::r=>by
  have ih:=trim_trim r;rw[trim];split
  ·rfl
  ·rename_i h;rw[trim,ih];rw[if_neg h]
theorem val_inj:∀ {a b:List Nat},Lim a->Lim b->trim a=a->trim b=b->val a=val b->a=b
 | [],[],_,_,_,_,_=>rfl
 | [],y::s,_,hb,_,tb,h=>by
  exfalso;have hv:val (y::s)=0:=h.symm;simp only[val]at hv;have h0:y=0/\val s=0:=by omega
  have hs:Lim s:=fun z hz=>hb z (List.mem_cons_of_mem _ hz)
  rw[trim]at tb;split at tb
  ·cases tb
  ·rename_i hn;simp only[List.cons.injEq,true_and]at tb;have:=val_inj (a:=[]) (b:=s) (fun _ h=>by cases h) hs rfl tb (by simp[val,h0.2]);subst this;exact hn ⟨rfl,h0.1⟩
 | x::r,[],ha,_,ta,_,h=>by
  exfalso;have hv:val (x::r)=0:=h;simp only[val]at hv;have h0:x=0/\val r=0:=by omega
  have hr:Lim r:=fun z hz=>ha z (List.mem_cons_of_mem _ hz)
  rw[trim]at ta;split at ta
  ·cases ta
  ·rename_i hn;simp only[List.cons.injEq,true_and]at ta;have:=val_inj (a:=r) (b:=[]) hr (fun _ h=>by cases h) ta rfl (by simp[val,h0.2]);subst this;exact hn ⟨rfl,h0.1⟩
 | x::r,y::s,ha,hb,ta,tb,h=>by
  simp only[val]at h;have hx:=ha x (List.mem_cons_self ..);have hy:=hb y (List.mem_cons_self ..);have h0:x=y/\val r=val s:=by omega
  have hr:Lim r:=fun z hz=>ha z (List.mem_cons_of_mem _ hz)
  have hs:Lim s:=fun z hz=>hb z (List.mem_cons_of_mem _ hz)
  have tr:trim r=r:=by
   rw[trim]at ta;split at ta
   ·cases ta
   ·simpa using ta
  have ts:trim s=s:=by
   rw[trim]at tb;split at tb
   ·cases tb
   ·simpa using tb
  rw[h0.1,val_inj hr hs tr ts h0.2]
def enc (n:Nat):List Nat:=if n=0 then [] else n % 4294967296::enc (n / 4294967296)
termination_by n
theorem val_enc (n:Nat):val (enc n)=n:=by
 induction n using Nat.strongRecOn with
 | ind n ih =>
  rw[enc];split
  ·subst_vars;rfl
  ·rename_i h;simp only[val];rw[ih _ (by omega)];omega
theorem lim_enc (n:Nat):Lim (enc n):=by
 induction n using Nat.strongRecOn with
 | ind n ih =>
  rw[enc];split
  ·intro x hx;cases hx
  ·intro x hx;rcases List.mem_cons.1 hx with rfl|hx
   ·exact Nat.mod_lt _ (by omega)
   ·exact ih _ (by omega) x hx
theorem enc_nil {n:Nat}:enc n=[]↔n=0:=by
 rw[enc];split<;>simp[*]
theorem trim_enc (n:Nat):trim (enc n)=enc n:=by
 induction n using Nat.strongRecOn with
 | ind n ih =>
  rw[enc];split
  ·rfl
  ·rename_i h;rw[trim,ih _ (by omega),if_neg];rintro⟨h1,h2⟩;rw[enc_nil]at h1;omega
theorem trim_eq_enc {a:List Nat}(h:Lim a):trim a=enc (val a) :=
 val_inj (lim_trim h) (lim_enc _) (trim_trim a) (trim_enc _) (by rw[val_trim,val_enc])
theorem val_drop (l:List Nat)(k:Nat):val (l.drop k)=at0 l k+4294967296*val (l.drop (k+1)):=by
 unfold at0
 by_cases h:k<l.length
 ·rw[List.drop_eq_getElem_cons h,List.getElem?_eq_getElem h];simp[val]
 ·rw[List.drop_eq_nil_of_le (by omega),List.drop_eq_nil_of_le (by omega),List.getElem?_eq_none (by omega)];simp[val]
theorem val_append:∀ (o:List Nat) (d:List Nat),val (o++d)=val o+4294967296 ^ o.length*val d
 | [],d=>by simp[val]
 | x::r,d=>by
  rw[List.cons_append,val,val,val_append r d,List.length_cons,Nat.pow_succ];grind
theorem val_nil_of {l:List Nat}{k:Nat}(h:l.length<=k):val (l.drop k)=0:=by
 rw[List.drop_eq_nil_of_le h];rfl
theorem val_lt:∀ {l:List Nat},Lim l->val l<4294967296 ^ l.length
 | [],_=>by simp[val]
 | x::r,h=>by
  have h1:=val_lt (l:=r) (fun y hy=>h y (List.mem_cons_of_mem _ hy));have h2:=h x (List.mem_cons_self ..);rw[val,List.length_cons,Nat.pow_succ];generalize 4294967296 ^ r.length=p at*;omega
theorem lim_append {a b:List Nat}(ha:Lim a)(hb:Lim b):Lim (a++b):=by
 intro x hx;rcases List.mem_append.1 hx with h|h
 ·exact ha x h
 ·exact hb x h
def valTo (l:List Nat)(k:Nat):Nat:=val (l.take k)
theorem valTo_succ (l:List Nat)(k:Nat):valTo l (k+1)=valTo l k+4294967296 ^ k*at0 l k:=by
 unfold valTo at0
 by_cases h:k<l.length
 ·rw[List.take_succ_eq_append_getElem h,val_append,List.length_take,Nat.min_eq_left (by omega),List.getElem?_eq_getElem h];simp[val]
 ·rw[List.take_of_length_le (by omega),List.take_of_length_le (by omega),List.getElem?_eq_none (by omega)];simp
theorem valTo_lt {l:List Nat}(h:Lim l)(k:Nat):valTo l k<4294967296 ^ k:=by
 have h1:Lim (l.take k):=fun x hx=>h x (List.mem_of_mem_take hx)
 refine Nat.lt_of_lt_of_le (val_lt h1) (Nat.pow_le_pow_right (by omega) ?_);simp only[List.length_take];omega
theorem valTo_all {l:List Nat}{k:Nat}(h:l.length<=k):valTo l k=val l:=by unfold valTo;rw[List.take_of_length_le h]
theorem below_of_digit {va vb P x y:Nat}(h1:va<P)(h:x<y):va+P*x<vb+P*y:=by
 have:P*x+P<=P*y:=by rw[<-Nat.mul_succ];exact Nat.mul_le_mul_left _ h
 omega
def row0 (o:List Nat)(m:Nat):List Nat:=o++List.replicate m 0
theorem row0_at (o:List Nat)(m:Nat):(LL (row0 o (m+1)))[o.length]?=some (.v (.int .u32 0)):=by
 simp[LL,row0,List.getElem?_append_right]
theorem row0_set (o:List Nat)(m v:Nat):(LL (row0 o (m+1))).set o.length (.v (.int .u32 (v:Int)))=LL (row0 (o++[v]) m):=by
 simp[LL,row0,List.set_append_right,List.replicate_succ]
theorem row0_length (o:List Nat)(m:Nat):(LL (row0 o m)).length=o.length+m:=by simp[LL,row0]
theorem LL_zeros (m:Nat):LL (row0 [] m)=List.replicate m (.v (.int .u32 0)):=by simp[LL,row0]
theorem row0_full (o:List Nat):row0 o 0=o:=by simp[row0]
theorem enc_length_mono {m n:Nat}(h:m<=n):(enc m).length<=(enc n).length:=by
 induction n using Nat.strongRecOn generalizing m with
 | ind n ih =>
  rw[enc];split
  ·simp
  ·rename_i h0
   conv=>rhs;rw[enc]
   rw[if_neg (by omega)];simp only[List.length_cons];have:=@ih (n / 4294967296) (by omega) (m / 4294967296) (by omega);omega
end Fi
