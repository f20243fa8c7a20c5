import Derived.Test.YtkekcmgkpdkieaaGreatDoorCV
import Derived.Test.YtkekcmgkpdkieaaGreatDoorCF
import Derived.Test.YtkekcmgkpdkieaaGreatDoorShelf2
import Derived.WalkKit
import Derived.ProofKit
import Derived.Handy
import Derived.Lay
import Derived.SevenTiedAt
set_option linter.unusedVariables false
set_option linter.unusedSimpArgs false
namespace Go.Proofs.YtkekcmgkpdkieaaGreatDoor
open Go.ChangeShapes Go.WideShapes Go.ChangeAt Go.RowKit Fi Fi.S
set_option maxRecDepth 1000000
theorem own:ownKnob Tryz.prog.godebug=none:=by kernel_rfl
theorem Mj {E:Env}(hE:E.jl=vF)(hG:E.eQ=eQ)(Xr:¬ E.mn):∀ g p,E.jl g=some p->∀ args ds v,kD args=some ds->p ds=some v->iZ Tryz.prog E sig g args [] (.d v,none):=by
 intro g p hp args ds v ha hv;rw[hE]at hp;unfold vF at hp;cases h1:Nat.beq g 1098 with
 | true =>
  rw[h1]at hp;cases hp;obtain rfl:=Qm2 h1;exact Sd (by rw[hG];rfl) Xr ha hv
 | false =>
  rw[h1]at hp;cases hp
theorem no2:kT E2 no=true:=by kernel_rfl
theorem no3:kT E3 no=true:=by kernel_rfl
theorem no1:kT E1 no=true:=by kernel_rfl
theorem TQ:∀ args w,(callFunc 309 args).run Tryz.prog w=.ok (.enter 309 args) w:=enters_of Tryz.func309 (by kernel_rfl) rfl
theorem agk:sig 257=some 309:=by kernel_rfl
theorem agl:sig 256=some 308:=by kernel_rfl
theorem agm:jg Tryz.prog E3 sig:=by
 refine⟨Mj rfl rfl (fun h=>h),fun g p hp args B r hr => ?_⟩
 change (bif Nat.beq g 256 then some (Dm 257) else none)=some p at hp
 cases h1:Nat.beq g 256 with
 | false=>rw[h1]at hp;cases hp
 | true =>
  rw[h1]at hp;cases hp;obtain rfl:=Qm2 h1;exact abt (E:=E3) mixed (bodies E2 no2) (fns E2 rfl) agk Tryz.sortL rfl Tryz.isAgg115 Tryz.sizeOf115 TQ (fun f hf=>(Q10 (agl.symm.trans hf)).symm) args B r hr
theorem agh:jg Tryz.prog E1 sig:=by
 refine⟨Mj rfl rfl (fun h=>h),fun g p hp args B r hr => ?_⟩
 change (bif Nat.beq g 206 then some Dq else bif Nat.beq g 1100 then some (r9 11) else none)=some p at hp
 cases h1:Nat.beq g 206 with
 | true =>
  rw[h1]at hp;cases hp;obtain rfl:=Qm2 h1;exact abA mixed (bodies E3 no3) (fns E3 rfl) agm (E:=E1) (fun h=>h) rfl args B r hr
 | false =>
  rw[h1]at hp;simp only[cond_false]at hp;cases h2:Nat.beq g 1100 with
  | true =>
   rw[h2]at hp;cases hp;obtain rfl:=Qm2 h2;exact Sg (E:=E1) rfl (fun h=>h) hr
  | false =>
   rw[h2]at hp;cases hp
theorem wM:Tys Tryz.prog:=⟨by kernel_rfl,by kernel_rfl,by kernel_rfl,by kernel_rfl,by kernel_rfl,by kernel_rfl,by kernel_rfl,by kernel_rfl,by kernel_rfl,by kernel_rfl,by kernel_rfl,by kernel_rfl,by kernel_rfl⟩
end Go.Proofs.YtkekcmgkpdkieaaGreatDoor
