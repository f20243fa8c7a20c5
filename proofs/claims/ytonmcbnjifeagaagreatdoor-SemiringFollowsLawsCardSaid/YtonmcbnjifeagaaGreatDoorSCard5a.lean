/- The call, and its lifting to the row. -/
import Derived.Test.YtonmcbnjifeagaaGreatDoorSPrims
import Derived.Test.YtonmcbnjifeagaaGreatDoorCP
import Derived.Test.YtonmcbnjifeagaaGreatDoorSAwake
import Derived.Test.YtonmcbnjifeagaaGreatDoorRows
import Derived.Test.YtonmcbnjifeagaaGreatDoorTie
import Derived.Test.YtonmcbnjifeagaaGreatDoorCards
import Derived.WalkKit
import Derived.ProofKit
import Derived.Handy
import Derived.Lay
import Derived.Carry
import Derived.SevenTiedAt
set_option linter.unusedVariables false
set_option linter.unusedSimpArgs false
namespace Go.Proofs.YtonmcbnjifeagaaGreatDoor
open Go.ChangeShapes Go.WideShapes Go.ChangeAt Go.RowKit Fi Fi.S
set_option maxRecDepth 1000000
theorem law7 (k u v w:Int)(hk:i64r k)(hu:i64r u)(hv:i64r v)(hw:i64r w)(W:World)(hL:laidMet Tryz.prog Rows.semiringFollowsLawsRow.laid W) :
  Calls Tryz.prog 7 #[.int .i64 k,.int .i64 u,.int .i64 v,.int .i64 w] W fun e w'=>e=.returned (.bool true)∧Below W.heap.size W w':=by
 have ht : Lib.TabIs Tryz.prog W "internal/strconv.uint64pow10" .u64 Lib.pow10Tab :=
  tabIs_of_mem tab_at (by kernel_rfl) (t:=235) (e:=29) (n:=20) (by kernel_rfl) (by kernel_rfl) (by kernel_rfl) (by kernel_rfl) (List.mem_of_getElem? (i:=2) (by rfl)) hL
 obtain ⟨hG,hI⟩:=globs_of_tab (E:=E1) (σ:=gid) tab_at ht glob_only
 obtain ⟨N,hN⟩:=ca_law7 (Ca.up1 awake_ca) k u v w hk hu hv hw
 refine law_run (ds:=[.v (.int .i64 k),.v (.int .i64 u),.v (.int .i64 v),.v (.int .i64 w)]) mixed (bodies E1 no1) (fns E1 rfl) prims1 (hN N (Nat.le_refl _)) (f:=7) rfl hI rfl ?_ hG
 intro i d x hd hx
 match i with
 | 0=>cases hd; cases hx; exact .v _
 | 1=>cases hd; cases hx; exact .v _
 | 2=>cases hd; cases hx; exact .v _
 | 3=>cases hd; cases hx; exact .v _
 | i+4=>cases hd
theorem lifted7 (os:Os)(started:os.Started)(H:Type)(enc:TypeId × Value→H) :
  ReturnsInHanded {} Tryz.checked os 7 .any (fun w args=>(Rows.semiringFollowsLawsSpec.pre enc Tryz.prog Tryz.f7 [] false w args∧laidMetH Tryz.prog Rows.semiringFollowsLawsRow.laid w)∧sizedMet enc Tryz.prog Tryz.f7 (OpenSpec.ofChange Rows.semiringFollowsLawsSpec) false w args)
   (Rows.semiringFollowsLawsSpec.post enc Tryz.prog Tryz.f7 false true false false):=by
 have hplain:∀ w,laidMetH Tryz.prog Rows.semiringFollowsLawsRow.laid w=laidMet Tryz.prog Rows.semiringFollowsLawsRow.laid w:=fun w=>MakeChecks.laidMetH_plain _ _ _ (by kernel_rfl)
 refine returnsInHanded_of_change_and (C:=Tryz.checked) (X:=fun w _=>laidMetH Tryz.prog Rows.semiringFollowsLawsRow.laid w) (fun _ _ _ hh h=>h.of_heap hh) own started (by kernel_rfl) Tryz.func7
  (ChangeSpec.witness_shaped (enc:=enc) (C:=Tryz.checked) (os:=os) (X:=fun w _=>laidMetH Tryz.prog Rows.semiringFollowsLawsRow.laid w) false (World.laidAll Tryz.prog os Rows.semiringFollowsLawsRow.laid) #[.int .i64 0,.int .i64 0,.int .i64 0,.int .i64 0] 8 (World.laidAll_os _ _ _)
   (World.shaped_of_ZipB (by kernel_rfl) (by kernel_rfl)) (by kernel_rfl) (by kernel_rfl) (by kernel_rfl)
   (by rw [hplain]; exact laidMet_laidAll _ (by kernel_rfl) (by kernel_rfl))) ?_
 intro W base args ds gs before hval0 hW _ _ hL _
 have hval:∀ (j:Nat) t v,Tryz.f7.params[j]?=some t→args[j]?=some v→Value.okWide Tryz.prog W .any base t v:=hval0
 have hW':=hW
 obtain ⟨p,q,hA0,hV,rfl,_,_⟩:=hW
 have hA:DataW.TrodAll enc Tryz.prog W 0 (fun _=>true) true Tryz.f7.params.toList args.toList ds p:=hA0
 rw [Tryz.params7] at hA hval
 obtain ⟨v0,vs0,d0,ds0,p0,q0,hargs,rfl,rfl,h0,r0⟩:=trodAll_cons hA
 obtain ⟨v1,vs1,d1,ds1,p1,q1,rfl,rfl,rfl,h1,r1⟩:=trodAll_cons r0
 obtain ⟨v2,vs2,d2,ds2,p2,q2,rfl,rfl,rfl,h2,r2⟩:=trodAll_cons r1
 obtain ⟨v3,vs3,d3,ds3,p3,q3,rfl,rfl,rfl,h3,r3⟩:=trodAll_cons r2
 obtain ⟨rfl,rfl,rfl⟩:=trodAll_nil r3
 obtain rfl:args=#[v0,v1,v2,v3]:=by cases args; simp_all
 obtain ⟨rfl,rfl⟩:=trodVars_none hV
 obtain ⟨a0,rfl,rfl,rfl,w0⟩:=open_int Tryz.underlying3 (hval 0 3 v0 rfl rfl) h0
 obtain ⟨a1,rfl,rfl,rfl,w1⟩:=open_int Tryz.underlying3 (hval 1 3 v1 rfl rfl) h1
 obtain ⟨a2,rfl,rfl,rfl,w2⟩:=open_int Tryz.underlying3 (hval 2 3 v2 rfl rfl) h2
 obtain ⟨a3,rfl,rfl,rfl,w3⟩:=open_int Tryz.underlying3 (hval 3 3 v3 rfl rfl) h3
 clear hA0 hval0
 simp only [List.append_nil] at hW'
 rw [hplain] at hL
 refine (law7 a0 a1 a2 a3 (wf_i64 w0) (wf_i64 w1) (wf_i64 w2) (wf_i64 w3) W hL).mono fun e W' ⟨he,hb⟩ => ?_
 subst he
 exact ⟨_,rfl,_,_,_,[],[],[],hW',trodAll_mk1 (shut_bool Tryz.underlying4 _),(trodAll_cons_mk (shut_int Tryz.underlying3 w0) (trodAll_cons_mk (shut_int Tryz.underlying3 w1) (trodAll_cons_mk (shut_int Tryz.underlying3 w2) (trodAll_cons_mk (shut_int Tryz.underlying3 w3) trodAll_mk0)))),rfl,hb.frame _,fun h=>by cases h⟩
end Go.Proofs.YtonmcbnjifeagaaGreatDoor
