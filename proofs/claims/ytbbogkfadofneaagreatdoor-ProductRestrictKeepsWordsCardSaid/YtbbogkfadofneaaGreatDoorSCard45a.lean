import Derived.Test.YtbbogkfadofneaaGreatDoorSPrims
import Derived.Test.YtbbogkfadofneaaGreatDoorDK
import Derived.Test.YtbbogkfadofneaaGreatDoorRows
import Derived.Test.YtbbogkfadofneaaGreatDoorTie
import Derived.Test.YtbbogkfadofneaaGreatDoorCards
import Derived.Carry
set_option linter.unusedVariables false
set_option linter.unusedSimpArgs false
namespace Go.Proofs.YtbbogkfadofneaaGreatDoor
open Go.ChangeShapes Go.WideShapes Go.ChangeAt Go.RowKit Fi Fi.S
set_option maxRecDepth 1000000
theorem laidOut:laidOutB Tryz.prog=true:=by kernel_rfl
theorem ad1 {w:World}{ds:List D}{v:Value}(h:Rc sig (Here w) w ds v.cells.toList)(hn:1<ds.length):bD sig (Here w) w (.a ds) v:=by
 have hl:=h.1;cases v with
 | agg cs=>exact aaz h
 | _=>simp[Value.cells]at hl;omega
theorem tyM:pK Tryz.prog 24 [(3,0,1),(22,1,1),(22,2,1),(22,3,1),(4,4,1)] 5=true:=by kernel_rfl
theorem Ny {H:Type}{enc:TypeId × Value->H}{w:World}{base:Nat}{held:Bool}{sp:Nat->Bool}{fuel:Nat}{cs:List Value}{x:DataW H × List MemPlace}(h:DataW.trod enc Tryz.prog w base sp held fuel 24 cs=some x) :
  ∃ (st:Int) (li lf la:List Int) (em:Bool),(∀ x ∈ li,gy x)/\(∀ x ∈ lf,gy x)/\(∀ x ∈ la,gy x)/\Rc sig (Here w) w [vI st,.s 1 (LK .i64 li),.s 1 (LK .i64 lf),.s 1 (LK .i64 la),vB em] cs:=by
 obtain⟨k,_,hl,hf⟩:=Et tyM h;obtain⟨_,h0⟩:=hf 0 3 0 1 rfl;obtain⟨_,h1⟩:=hf 1 22 1 1 rfl;obtain⟨_,h2⟩:=hf 2 22 2 1 rfl;obtain⟨_,h3⟩:=hf 3 22 3 1 rfl;obtain⟨_,h4⟩:=hf 4 4 4 1 rfl;obtain⟨st,_,r0⟩:=KD (σ:=sig) (Xj vk.int) h0;obtain⟨li,g1,r1⟩:=ui (σ:=sig) vk.ints vk.int h1;obtain⟨lf,g2,r2⟩:=ui (σ:=sig) vk.ints vk.int h2;obtain⟨la,g3,r3⟩:=ui (σ:=sig) vk.ints vk.int h3;obtain⟨em,r4⟩:=RI (σ:=sig) (aay vk.bool) h4;refine⟨st,li,lf,la,em,fun x hx=>wf_i64 (g1 x hx),fun x hx=>wf_i64 (g2 x hx),fun x hx=>wf_i64 (g3 x hx),?_⟩;have:=(((r0.append r1).append r2).append r3).append r4;rw[xQ,xQ,xQ,xQ,LM (n:=1+1+1+1+1) hl]at this;exact this
theorem wf_u8 {n:Int}(h:(Lit.int .u8 n).wf=true):0<=n/\n<256:=by
 simp only[Lit.wf,Qb1,decide_eq_true_eq]at h;have e1:IntKind.min .u8=0:=by rfl
 have e2:IntKind.max .u8=255:=by rfl
 rw[e1,e2]at h;omega
theorem ajx (k:Int)(em:Bool)(st:Int)(li lf la word:List Int)(sy:Int)(hk:gy k)(hli:∀ x ∈ li,gy x)(hlf:∀ x ∈ lf,gy x)(hla:∀ x ∈ la,gy x)(hw:∀ x ∈ word,gy x)(hs:0<=sy/\sy<256)(W:World)(x1 x2:Value)
  (h1:bD sig (Here W) W (.a [vI st,.s 1 (LK .i64 li),.s 1 (LK .i64 lf),.s 1 (LK .i64 la),vB em]) x1) (h2:bD sig (Here W) W (.s 1 (LK .i64 word)) x2) :
  Calls Tryz.prog 3 #[.int .i64 k,x1,x2,.int .u8 sy] W fun e w'=>e=.returned (.bool true)/\Below W.heap.size W w':=by
 obtain⟨N,hN⟩:=Wx k em st li lf la word sy hk hli hlf hla hw hs K7;refine aax (ds:=[vI k,.a [vI st,.s 1 (LK .i64 li),.s 1 (LK .i64 lf),.s 1 (LK .i64 la),vB em],.s 1 (LK .i64 word),.v (.int .u8 sy)]) mixed (bodies E1 no1) (fns E1 rfl) ad2 (hN N (Qd1 _)) (f:=3) (by kernel_rfl) (I:=Here W) (fun b hb=>hb) rfl ?_ (fun j y hy=>by cases hy);intro i d x hd hx
 match i with
 | 0=>cases hd;cases hx;exact .v _
 | 1=>cases hd;cases hx;exact h1
 | 2=>cases hd;cases hx;exact h2
 | 3=>cases hd;cases hx;exact .v _
 | i+4=>cases hd
theorem aaA (os:Os)(started:os.Started)(H:Type)(enc:TypeId × Value->H) :
  ReturnsInHanded {} Tryz.checked os 3 .any (fun w args=>(Rows.productRestrictKeepsWordsSpec.pre enc Tryz.prog Tryz.f3 [] false w args/\laidMetH Tryz.prog Rows.productRestrictKeepsWordsRow.laid w)/\sizedMet enc Tryz.prog Tryz.f3 (OpenSpec.ofChange Rows.productRestrictKeepsWordsSpec) false w args)
   (Rows.productRestrictKeepsWordsSpec.post enc Tryz.prog Tryz.f3 false true false false):=by
 have hplain:∀ w,laidMetH Tryz.prog Rows.productRestrictKeepsWordsRow.laid w=laidMet Tryz.prog Rows.productRestrictKeepsWordsRow.laid w:=fun w=>MakeChecks.laidMetH_plain _ _ _ (by kernel_rfl)
 refine returnsInHanded_of_change_and (C:=Tryz.checked) (X:=fun w _=>laidMetH Tryz.prog Rows.productRestrictKeepsWordsRow.laid w) (fun _ _ _ hh h=>h.of_heap hh) own started (by kernel_rfl) Tryz.func3
  (ChangeSpec.witness_shaped (enc:=enc) (C:=Tryz.checked) (os:=os) (X:=fun w _=>laidMetH Tryz.prog Rows.productRestrictKeepsWordsRow.laid w) false (World.laidAll Tryz.prog os Rows.productRestrictKeepsWordsRow.laid) #[.int .i64 0,.agg #[.int .i64 0,.slice none 0 0,.slice none 0 0,.slice none 0 0,.bool false],.slice none 0 0,.int .u8 0] 8 (World.laidAll_os _ _ _)
   (World.shaped_of_ZipB (by kernel_rfl) (by kernel_rfl)) (by kernel_rfl) (by kernel_rfl) (by kernel_rfl)
   (by rw[hplain];exact laidMet_laidAll _ (by kernel_rfl) (by kernel_rfl))) ?_
 intro W base args ds gs before hval0 hW _ _ hL _;have hval:∀ (j:Nat) t v,Tryz.f3.params[j]?=some t->args[j]?=some v->Value.okWide Tryz.prog W .any base t v:=hval0;have hW':=hW;obtain⟨p,q,XB,hV,rfl,_,_⟩:=hW;have hA:DataW.TrodAll enc Tryz.prog W 0 (fun _=>true) true Tryz.f3.params.toList args.toList ds p:=XB;rw[Tryz.params3]at hA hval;obtain⟨v0,vs0,d0,ds0,p0,q0,hargs,rfl,rfl,t0,r0⟩:=trodAll_cons hA;obtain⟨v1,vs1,d1,ds1,p1,q1,rfl,rfl,rfl,t1,r1⟩:=trodAll_cons r0;obtain⟨v2,vs2,d2,ds2,p2,q2,rfl,rfl,rfl,t2,r2⟩:=trodAll_cons r1;obtain⟨v3,vs3,d3,ds3,p3,q3,rfl,rfl,rfl,t3,r3⟩:=trodAll_cons r2;obtain⟨rfl,rfl,rfl⟩:=trodAll_nil r3;obtain rfl:args=#[v0,v1,v2,v3]:=by cases args;simp_all
 obtain⟨rfl,rfl⟩:=trodVars_none hV;obtain⟨a0,rfl,rfl,rfl,w0⟩:=open_int Tryz.underlying3 (hval 0 3 v0 rfl rfl) t0;obtain⟨a3,rfl,rfl,rfl,w3⟩:=open_int Tryz.underlying5 (hval 3 5 v3 rfl rfl) t3;obtain⟨sa,sl,sc,rfl⟩:=okWide_slice Tryz.underlying22 (hval 2 22 v2 rfl rfl);clear XB hval0 hval;simp only[Q10]at hW';rw[hplain]at hL;obtain⟨n1,g1⟩:=t1;obtain⟨n2,g2⟩:=t2;obtain⟨st,li,lf,la,em,hli,hlf,hla,c1⟩:=Ny g1;obtain⟨l,hl,c2⟩:=ui (σ:=sig) vk.ints vk.int g2;have b1:=ad1 c1 aA;have b2:bD sig (Here W) W (.s 1 (LK .i64 l)) (.slice sa sl sc):=c2.2 0 _ _ rfl rfl;refine(ajx a0 em st li lf la l a3 (wf_i64 w0) hli hlf hla (fun x hx=>wf_i64 (hl x hx)) (wf_u8 w3) W v1 (.slice sa sl sc) b1 b2).mono fun e W' ⟨he,hb⟩ => ?_
 subst he;have l1:∀ x ∈ p1,x.block<W.heap.size:=fun x hx=>hW'.lt x (by simp[hx])
 have l2:∀ x ∈ p2,x.block<W.heap.size:=fun x hx=>hW'.lt x (by simp[hx])
 have k1:=Below.trod laidOut (by kernel_rfl) (of_decide_eq_true (by kernel_rfl)) ⟨n1,g1⟩ hb l1;have k2:=Below.trod laidOut (by kernel_rfl) (of_decide_eq_true (by kernel_rfl)) ⟨n2,g2⟩ hb l2;exact⟨_,rfl,_,_,_,[],_,[],hW',trodAll_mk1 (shut_bool Tryz.underlying4 _),(trodAll_cons_mk (shut_int Tryz.underlying3 w0) (trodAll_cons_mk k1 (trodAll_cons_mk k2 (trodAll_cons_mk (shut_int Tryz.underlying5 w3) trodAll_mk0)))),rfl,hb.frame _,fun h=>by cases h⟩
end Go.Proofs.YtbbogkfadofneaaGreatDoor
