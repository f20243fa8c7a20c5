import Derived.Test.YtckkhcnfdmlabaaGreatDoorCV
import Derived.Test.YtckkhcnfdmlabaaGreatDoorCF
import Derived.Test.YtckkhcnfdmlabaaGreatDoorShelf2
import Derived.WalkKit
import Derived.ProofKit
import Derived.Handy
import Derived.Lay
import Derived.SevenTiedAt
set_option linter.unusedVariables false
set_option linter.unusedSimpArgs false
namespace Go.Proofs.YtckkhcnfdmlabaaGreatDoor
open Go.ChangeShapes Go.WideShapes Go.ChangeAt Go.RowKit Fi Fi.S
set_option maxRecDepth 1000000
theorem own:ownKnob Tryz.prog.godebug=none:=by kernel_rfl
theorem JW {E:Env}(hE:E.iR=tO)(hG:E.dY=dY)(UD:¬ E.mn):∀ g p,E.iR g=some p->∀ args ds v,jL args=some ds->p ds=some v->iC Tryz.prog E sig g args [] (.d v,none):=by
 intro g p hp args ds v ha hv;rw[hE]at hp;unfold tO at hp;cases h1:Nat.beq g 1098 with
 | true =>
  rw[h1]at hp;cases hp;obtain rfl:=Nat.eq_of_beq_eq_true h1;exact PM (by rw[hG];rfl) UD ha hv
 | false =>
  rw[h1]at hp;cases hp
theorem no2:j_ E2 no=true:=by kernel_rfl
theorem no3:j_ E3 no=true:=by kernel_rfl
theorem no1:j_ E1 no=true:=by kernel_rfl
theorem QM:∀ args w,(callFunc 289 args).run Tryz.prog w=.ok (.enter 289 args) w:=enters_of Tryz.func289 (by kernel_rfl) rfl
theorem acp:sig 257=some 289:=by kernel_rfl
theorem acr:sig 256=some 288:=by kernel_rfl
theorem acs:iJ Tryz.prog E3 sig:=by
 refine⟨JW rfl rfl (fun h=>h),fun g p hp args B r hr => ?_⟩
 change (bif Nat.beq g 256 then some (Bj 257) else none)=some p at hp
 cases h1:Nat.beq g 256 with
 | false=>rw[h1]at hp;cases hp
 | true =>
  rw[h1]at hp;cases hp;obtain rfl:=Nat.eq_of_beq_eq_true h1;exact X_ (E:=E3) mixed (bodies E2 no2) (fns E2 rfl) acp Tryz.sortL rfl Tryz.isAgg65 Tryz.sizeOf65 QM (fun f hf=>(Option.some.inj (acr.symm.trans hf)).symm) args B r hr
theorem acn:iJ Tryz.prog E1 sig:=by
 refine⟨JW rfl rfl (fun h=>h),fun g p hp args B r hr => ?_⟩
 change (bif Nat.beq g 206 then some Bo else bif Nat.beq g 1100 then some (qF 11) else none)=some p at hp
 cases h1:Nat.beq g 206 with
 | true =>
  rw[h1]at hp;cases hp;obtain rfl:=Nat.eq_of_beq_eq_true h1;exact Yg mixed (bodies E3 no3) (fns E3 rfl) acs (E:=E1) (fun h=>h) rfl args B r hr
 | false =>
  rw[h1]at hp;simp only[cond_false]at hp;cases h2:Nat.beq g 1100 with
  | true =>
   rw[h2]at hp;cases hp;obtain rfl:=Nat.eq_of_beq_eq_true h2;exact PN (E:=E1) rfl (fun h=>h) hr
  | false =>
   rw[h2]at hp;cases hp
theorem uL:Tys Tryz.prog:=⟨by kernel_rfl,by kernel_rfl,by kernel_rfl,by kernel_rfl,by kernel_rfl,by kernel_rfl,by kernel_rfl,by kernel_rfl,by kernel_rfl,by kernel_rfl,by kernel_rfl,by kernel_rfl,by kernel_rfl⟩
end Go.Proofs.YtckkhcnfdmlabaaGreatDoor
