import Derived.Test.YtckkhcnfdmlabaaGreatDoorCS
set_option linter.unusedVariables false
set_option linter.unusedSimpArgs false
noncomputable section
namespace Fi.S
open Go Fi
set_option maxHeartbeats 8000000
section
variable {α:Type} {e:α->W}
end
section
variable {α:Type} {e:α->W}
end
section
variable {α:Type} {e:α->W}
end
section
variable {α:Type} {e:α->W} {pl:α->α->α} {z:W} {fD:α->Bool} {G:Nat->α->Prop} {m:Nat} {kk:Int} {ps:List Int}
theorem BV.keep {s:Nat}{out:FV}{L:List ae}{aq:List (Ar α)}(h:BV e s out L aq)(X:List ae):BV e s out (L++X) aq:=by
 rcases h with h|⟨i,az,h1,h2,h3⟩
 ·exact .inl h
 ·exact .inr ⟨i,az,h1,h2,by rw[List.getElem?_append_left (bH h3)];exact h3⟩
end
section
variable {α:Type} {e:α->W} {pl:α->α->α} {z:W} {fD:α->Bool} {G:Nat->α->Prop} {m:Nat} {kk:Int} {ps:List Int}
end
set_option maxRecDepth 10000
section
variable {α:Type} {e:α->W} {pl:α->α->α} {z:W} {fD:α->Bool} {G:Nat->α->Prop} {m:Nat} {kk:Int} {ps:List Int}
end
end Fi.S
namespace Fi.S
open Go Fi
set_option maxHeartbeats 8000000
set_option maxRecDepth 10000
section
variable {α:Type} {e:α->W} {kk:Int} {ps:List Int}
end
end Fi.S
namespace Fi.S
open Go Fi
set_option maxHeartbeats 8000000
set_option maxRecDepth 10000
section
variable {α:Type} {e:α->W} {kk:Int} {ps:List Int}
theorem aaa (n:Nat)(x lo hi:Int):CL E1 (n+100) 1041 [.d (.v (.int .i64 x)),.d (.v (.int .i64 lo)),.d (.v (.int .i64 hi))] []=some (.d (.v (.bool (BZ x lo hi))),none):=by
 rw[ak rfl (k1041:E1.fn _=_) rfl];unfold BZ
 by_cases h1:lo<=x
 ·simp -implicitDefEqProofs[f1041,h1]
 ·have h2:x<lo:=by omega
  simp -implicitDefEqProofs[f1041,h1,h2]
theorem Ga (n:Nat)(x:Int):CL E1 (n+100) 1040 [.d (.v (.int .i64 x))] []=some (.d (.v (.bool (BZ x 1 32))),none):=by
 rw[ak rfl (k1040:E1.fn _=_) rfl];unfold BZ
 by_cases h1:1<=x
 ·simp -implicitDefEqProofs[f1040,h1]
 ·have h2:x<1:=by omega
  simp -implicitDefEqProofs[f1040,h1,h2]
end
section
variable {α:Type} {e:α->W}
def jg (ws ws':List W):Bool:=decide ((ws.length:Int)=ws'.length)&&(ws.zip ws').all fun p=>p.1.eq p.2
def Jf (e:α->W)(aq aq':List (Ar α)):Bool:=decide ((aq.length:Int)=aq'.length)&&(aq.zip aq').all fun p=>decide (mP p.1 p.2=0)&&(e p.1.x).eq (e p.2.x)
def z_ (kk:Int)(ps:List Int)(sy st:Int)(aZ fin:List W)(aB:List (Ar α))(kk':Int)(ps':List Int)(sy' st':Int)(Cc fin':List W)(ru:List (Ar α))(e:α->W):Bool :=
 xI kk ps kk' ps'&&(decide (sy=sy')&&(decide (st=st')&&(jg aZ Cc&&(jg fin fin'&&Jf e aB ru))))
end
end Fi.S
noncomputable section
namespace Fi.S
open Go Fi
set_option maxHeartbeats 8000000
set_option maxRecDepth 10000
variable {α:Type} {e:α->W}
theorem Jg (k:Int)(ps:List Int):xI k ps k ps=true:=by simp[xI]
theorem Ce:∀ ws:List W,jg ws ws=true:=by
 intro ws;unfold jg;simp only[decide_true,Bool.true_and,List.all_eq_true];intro p hp;obtain⟨i,hi⟩:=List.mem_iff_getElem?.1 hp;rw[List.getElem?_zip_eq_some]at hi;rw[bY hi.1 hi.2];exact W.zW _
theorem LM (aq:List (Ar α)):Jf e aq aq=true:=by
 unfold Jf;simp only[decide_true,Bool.true_and,List.all_eq_true];intro p hp;obtain⟨i,hi⟩:=List.mem_iff_getElem?.1 hp;rw[List.getElem?_zip_eq_some]at hi;rw[bY hi.1 hi.2,W.zW];have:mP p.2 p.2=0:=by
  rw[F4];exact⟨rfl,rfl,rfl⟩
 simp[this]
theorem Gb (kk:Int)(ps:List Int)(sy st:Int)(aZ fin:List W)(aB:List (Ar α)):z_ kk ps sy st aZ fin aB kk ps sy st aZ fin aB e=true:=by
 unfold z_;rw[Jg,Ce,Ce,LM];simp
theorem PL {pl:α->α->α}{fD:α->Bool}(l:List (Ar α))(n:Nat)(h:l.length<=n):(gy pl fD l).length<=n:=by
 have hf:∀ (l p:List (Ar α)),(l.foldl (fun p x=>bJ pl x p) p).length<=p.length+l.length:=by
  intro l
  induction l with
  | nil=>intro p;simp
  | cons x l ih =>
   intro p;have:=ih (bJ pl x p);have:=BS pl x p;simp only[List.foldl_cons,List.length_cons];omega
 have h1:=List.length_filter_le (fun a => !fD a.x) (dU pl l);have h2:=hf l [];unfold gy;unfold dU at*;simp only[List.length_nil]at h2;omega
end Fi.S
