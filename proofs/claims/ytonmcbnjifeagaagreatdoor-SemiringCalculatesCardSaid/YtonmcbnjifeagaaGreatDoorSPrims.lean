/- The functions that are given. -/
import Derived.Test.YtonmcbnjifeagaaGreatDoorSChk
import Derived.Test.YtonmcbnjifeagaaGreatDoorCH
import Derived.Test.YtonmcbnjifeagaaGreatDoorCF
import Derived.Test.YtonmcbnjifeagaaGreatDoorShelf
import Derived.Test.YtonmcbnjifeagaaGreatDoorShelf2
import Derived.WalkKit
import Derived.ProofKit
import Derived.Handy
import Derived.Lay
import Derived.SevenTiedAt
set_option linter.unusedVariables false
set_option linter.unusedSimpArgs false
namespace Go.Proofs.YtonmcbnjifeagaaGreatDoor
open Go.ChangeShapes Go.WideShapes Go.ChangeAt Go.RowKit Fi Fi.S
set_option maxRecDepth 1000000
theorem own:ownKnob Tryz.prog.godebug=none:=by kernel_rfl
theorem Jk : Tryz.prog.globalNamed "internal/strconv.uint64pow10" = some 3 := by kernel_rfl
theorem Gp {E:Env}(hE:E.iY=yR)(hG:E.eZ=eZ)(Ry:¬ E.mn):∀ g p,E.iY g=some p->∀ args ds v,lT args=some ds->p ds=some v->oQ Tryz.prog E gid g args [] (.d v,none):=by
 intro g p hp args ds v ha hv;rw[hE]at hp;unfold yR at hp;cases h1:Nat.beq g 76 with
 | true =>
  rw[h1]at hp;cases hp;obtain rfl:=Nat.eq_of_beq_eq_true h1;refine UW Tryz.lays156 Tryz.Builder_Extra_156 Ry (fun f hf => ?_) args ds v ha hv;obtain⟨rfl,_⟩:=iL hf
  kernel_rfl
 | false =>
  rw[h1]at hp;simp only[cond_false]at hp;cases h2:Nat.beq g 129 with
  | true =>
   rw[h2]at hp;cases hp;obtain rfl:=Nat.eq_of_beq_eq_true h2;refine UU Tryz.laysM171 Jk (by rw[hG];rfl) (fun f hf => ?_) args ds v ha hv;obtain⟨rfl,_⟩:=iL hf
   kernel_rfl
  | false =>
   rw[h2]at hp;cases hp
theorem no2:mR E2 no=true:=by kernel_rfl
theorem no3:mR E3 no=true:=by kernel_rfl
theorem no1:mR E1 no=true:=by kernel_rfl
theorem MZ:∀ args w,(callFunc 257 args).run Tryz.prog w=.ok (.enter 257 args) w:=enters_of Tryz.func257 (by kernel_rfl) rfl
theorem Yc:iK Tryz.prog E3 gid:=by
 refine⟨Gp rfl rfl (fun h=>h),fun g p hp args B r hr => ?_⟩
 change (bif Nat.beq g 256 then some (yO 257) else none)=some p at hp
 cases h1:Nat.beq g 256 with
 | false=>rw[h1]at hp;cases hp
 | true =>
  rw[h1]at hp;cases hp;obtain rfl:=Nat.eq_of_beq_eq_true h1;exact Tk (E:=E3) mixed (bodies E2 no2) (fns E2 rfl) rfl Tryz.sortL rfl Tryz.isAgg86 Tryz.sizeOf86 MZ (fun f hf=>(iL hf).1) args B r hr
theorem Ya:iK Tryz.prog E1 gid:=by
 refine⟨Gp rfl rfl (fun h=>h),fun g p hp args B r hr => ?_⟩
 change (bif Nat.beq g 206 then some ze else none)=some p at hp
 cases h1:Nat.beq g 206 with
 | false=>rw[h1]at hp;cases hp
 | true =>
  rw[h1]at hp;cases hp;obtain rfl:=Nat.eq_of_beq_eq_true h1;exact Tw mixed (bodies E3 no3) (fns E3 rfl) Yc (E:=E1) (fun h=>h) rfl args B r hr
theorem MX:∀ j y,E1.eZ j=some y->j=3/\y=.a (Lib.pow10Tab.map fun z=>.v (.int .u64 z)):=by
 intro j y h
 change eZ j=some y at h
 unfold eZ at h;cases h1:Nat.beq j 3 with
 | true=>rw[h1]at h;cases h;exact⟨Nat.eq_of_beq_eq_true h1,rfl⟩
 | false=>rw[h1]at h;cases h
theorem zO:U8 Tryz.prog:=⟨by kernel_rfl,by kernel_rfl,by kernel_rfl,by kernel_rfl,by kernel_rfl,by kernel_rfl,by kernel_rfl,by kernel_rfl,by kernel_rfl,by kernel_rfl,by kernel_rfl,by kernel_rfl,by kernel_rfl⟩
end Go.Proofs.YtonmcbnjifeagaaGreatDoor
