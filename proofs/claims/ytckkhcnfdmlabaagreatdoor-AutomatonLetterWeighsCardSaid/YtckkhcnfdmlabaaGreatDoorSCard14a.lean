import Derived.Test.YtckkhcnfdmlabaaGreatDoorSPrims
import Derived.Test.YtckkhcnfdmlabaaGreatDoorCZ
import Derived.Test.YtckkhcnfdmlabaaGreatDoorCAwake
import Derived.Test.YtckkhcnfdmlabaaGreatDoorRows
import Derived.Test.YtckkhcnfdmlabaaGreatDoorTie
import Derived.Test.YtckkhcnfdmlabaaGreatDoorCards
import Derived.Carry
set_option linter.unusedVariables false
set_option linter.unusedSimpArgs false
namespace Go.Proofs.YtckkhcnfdmlabaaGreatDoor
open Go.ChangeShapes Go.WideShapes Go.ChangeAt Go.RowKit Fi Fi.S
set_option maxRecDepth 1000000
theorem laidOut:laidOutB Tryz.prog=true:=by kernel_rfl
theorem ajF (k sb v:Int)(l:List Int)(hk:jr k)(hs:jr sb)(hv:jr v)(hl:∀ x ∈ l,jr x)(W:World)(x3:Value)(h3:bg sig (Here W) W (.s 1 (LK .i64 l)) x3) :
  Calls Tryz.prog 4 #[.int .i64 k,.int .i64 sb,.int .i64 v,x3] W fun e w'=>e=.returned (.bool true)/\Below W.heap.size W w':=by
 obtain⟨N,hN⟩:=Wm k sb v l hk hs hv hl wY;refine BH (ds:=[.v (.int .i64 k),.v (.int .i64 sb),.v (.int .i64 v),.s 1 (LK .i64 l)]) mixed (bodies E1 no1) (fns E1 rfl) Im (hN N (Nat.le_refl _)) (f:=4) (by kernel_rfl) (I:=Here W) (fun b hb=>hb) rfl ?_ (fun j y hy=>by cases hy);intro i d x hd hx
 match i with
 | 0=>cases hd;cases hx;exact .v _
 | 1=>cases hd;cases hx;exact .v _
 | 2=>cases hd;cases hx;exact .v _
 | 3=>cases hd;cases hx;exact h3
 | i+4=>cases hd
theorem aas (os:Os)(started:os.Started)(H:Type)(enc:TypeId × Value->H) :
  ReturnsInHanded {} Tryz.checked os 4 .any (fun w args=>(Rows.automatonLetterWeighsSpec.pre enc Tryz.prog Tryz.f4 [] false w args/\laidMetH Tryz.prog Rows.automatonLetterWeighsRow.laid w)/\sizedMet enc Tryz.prog Tryz.f4 (OpenSpec.ofChange Rows.automatonLetterWeighsSpec) false w args)
   (Rows.automatonLetterWeighsSpec.post enc Tryz.prog Tryz.f4 false true false false):=by
 have hplain:∀ w,laidMetH Tryz.prog Rows.automatonLetterWeighsRow.laid w=laidMet Tryz.prog Rows.automatonLetterWeighsRow.laid w:=fun w=>MakeChecks.laidMetH_plain _ _ _ (by kernel_rfl)
 refine returnsInHanded_of_change_and (C:=Tryz.checked) (X:=fun w _=>laidMetH Tryz.prog Rows.automatonLetterWeighsRow.laid w) (fun _ _ _ hh h=>h.of_heap hh) own started (by kernel_rfl) Tryz.func4
  (ChangeSpec.witness_shaped (enc:=enc) (C:=Tryz.checked) (os:=os) (X:=fun w _=>laidMetH Tryz.prog Rows.automatonLetterWeighsRow.laid w) false (World.laidAll Tryz.prog os Rows.automatonLetterWeighsRow.laid) #[.int .i64 0,.int .i64 0,.int .i64 0,.slice none 0 0] 8 (World.laidAll_os _ _ _)
   (World.shaped_of_ZipB (by kernel_rfl) (by kernel_rfl)) (by kernel_rfl) (by kernel_rfl) (by kernel_rfl)
   (by rw[hplain];exact laidMet_laidAll _ (by kernel_rfl) (by kernel_rfl))) ?_
 intro W base args ds gs before hval0 hW _ _ hL _;have hval:∀ (j:Nat) t v,Tryz.f4.params[j]?=some t->args[j]?=some v->Value.okWide Tryz.prog W .any base t v:=hval0;have hW':=hW;obtain⟨p,q,GZ,hV,rfl,_,_⟩:=hW;have hA:DataW.TrodAll enc Tryz.prog W 0 (fun _=>true) true Tryz.f4.params.toList args.toList ds p:=GZ;rw[Tryz.params4]at hA hval;obtain⟨v0,vs0,d0,ds0,p0,q0,hargs,rfl,rfl,t0,r0⟩:=trodAll_cons hA;obtain⟨v1,vs1,d1,ds1,p1,q1,rfl,rfl,rfl,t1,r1⟩:=trodAll_cons r0;obtain⟨v2,vs2,d2,ds2,p2,q2,rfl,rfl,rfl,t2,r2⟩:=trodAll_cons r1;obtain⟨v3,vs3,d3,ds3,p3,q3,rfl,rfl,rfl,t3,r3⟩:=trodAll_cons r2;obtain⟨rfl,rfl,rfl⟩:=trodAll_nil r3;obtain rfl:args=#[v0,v1,v2,v3]:=by cases args;simp_all
 obtain⟨rfl,rfl⟩:=trodVars_none hV;obtain⟨a0,rfl,rfl,rfl,w0⟩:=open_int Tryz.underlying3 (hval 0 3 v0 rfl rfl) t0;obtain⟨a1,rfl,rfl,rfl,w1⟩:=open_int Tryz.underlying3 (hval 1 3 v1 rfl rfl) t1;obtain⟨a2,rfl,rfl,rfl,w2⟩:=open_int Tryz.underlying3 (hval 2 3 v2 rfl rfl) t2;obtain⟨sa,sl,sc,rfl⟩:=okWide_slice Tryz.underlying22 (hval 3 22 v3 rfl rfl);clear GZ hval0 hval;simp only[List.append_nil]at hW';rw[hplain]at hL;obtain⟨n3,g3⟩:=t3;obtain⟨l,hl,c3⟩:=uD (σ:=sig) wW.ints wW.int g3;have b3:bg sig (Here W) W (.s 1 (LK .i64 l)) (.slice sa sl sc):=c3.2 0 _ _ rfl rfl;refine(ajF a0 a1 a2 l (wf_i64 w0) (wf_i64 w1) (wf_i64 w2) (fun x hx=>wf_i64 (hl x hx)) W (.slice sa sl sc) b3).mono fun e W' ⟨he,hb⟩ => ?_
 subst he;have l3:∀ x ∈ p3,x.block<W.heap.size:=fun x hx=>hW'.lt x (by simp[hx])
 have k3:=Below.trod laidOut (by kernel_rfl) (of_decide_eq_true (by kernel_rfl)) ⟨n3,g3⟩ hb l3;exact⟨_,rfl,_,_,_,[],_,[],hW',trodAll_mk1 (shut_bool Tryz.underlying4 _),(trodAll_cons_mk (shut_int Tryz.underlying3 w0) (trodAll_cons_mk (shut_int Tryz.underlying3 w1) (trodAll_cons_mk (shut_int Tryz.underlying3 w2) (trodAll_cons_mk k3 trodAll_mk0)))),rfl,hb.frame _,fun h=>by cases h⟩
end Go.Proofs.YtckkhcnfdmlabaaGreatDoor
