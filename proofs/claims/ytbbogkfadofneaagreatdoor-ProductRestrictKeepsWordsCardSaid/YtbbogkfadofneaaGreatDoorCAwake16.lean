import Derived.Test.YtbbogkfadofneaaGreatDoorCH
noncomputable section
namespace Fi.S
open Go Fi
set_option maxRecDepth 1000000
def give (E:Env)(g0:Nat)(ds0:List D)(v0:D):Env:={E with iV:=fun g=>bif Nat.beq g g0 then some (fun ds=>bif nE ds ds0 then some v0 else none) else E.iV g}
theorem EA {E:Env}{K g0:Nat}{ds0:List D}{v0:D}(hp:E.iV g0=none)(h:cu E K g0 (ds0.map .d) []=some (.d v0,none)):(give E g0 ds0 v0).Has E K g0 (fun ds=>bif nE ds ds0 then some v0 else none) where
 fn:=rfl
 d9:=rfl
 uA:=hp
 aha:=by
  show(bif Nat.beq g0 g0 then _ else _)=_;rw[Nat.beq_refl];rfl
 iV:=fun g hg=>by
  show(bif Nat.beq g g0 then _ else E.iV g)=E.iV g;have:Nat.beq g g0=false:=by
   cases hb:Nat.beq g g0 with
   | false=>rfl
   | true=>exact absurd (Qg2 hb) hg
  rw[this];rfl
 iH:=fun _ _ hq=>hq
 has:=fun ds v hv n hn=>by
  change (bif nE ds ds0 then some v0 else none)=some v at hv
  cases hs:nE ds ds0 with
  | true =>
   rw[hs]at hv;cases hv;rw[oq hs];exact yo h hn
  | false =>
   rw[hs]at hv;cases hv
def q1 (n:Nat)(l:List D):D:=.a [vB false,.s 1 [.v (.int .u32 n)],.s 1 l,vI 0,vB false,.v (.int .u64 0),.s 6 [],.s 8 []]
def aX (n:Nat):D:=.a [vI 1,.s 1 [],vI 1,vI 1,.s 8 [q1 1 []],.s 8 [q1 1 []],.s 11 [.a [vI 0,vI 1,vI 0,vB false,.s 1 [.v (.int .u32 1)],.s 1 [.v (.int .u32 n)],vI 0,vB false,.v (.int .u64 0),.s 6 [],.s 8 []]]]
def ok0 (x:D):D:=.t [x,vI 0]
def wd2:D:=.s 1 [vI 1,vI 1]
def nl:D:=.s 1 []
def zr:D:=vI 0
def aaB:D:=q1 1 [.v (.int .u32 16)]
def EB:Env:=give E1 1530 [aX 4,wd2] (ok0 aaB)
def aG1:Env:=give EB 1609 [aX 4] (ok0 (aX 4))
def aG2:Env:=give aG1 1024 [aX 2] (ok0 (aX 2))
def aG3:Env:=give aG2 1505 [aX 2] (ok0 (aX 2))
def aG4:Env:=give aG3 1620 [aX 2,nl] (ok0 (aX 2))
def aG5:Env:=give aG4 1610 [aX 2,aX 2] (aX 4)
def aG6:Env:=give aG5 1629 [aX 2,aX 2] zr
def aG7:Env:=give aG6 1608 [aX 2,aX 2] (ok0 (aX 4))
theorem aw1:ag_ (cu EB 3000 1609 ([aX 4].map .d) []) (ok0 (aX 4))=true:=by kernel_rfl
theorem aw2:ag_ (cu aG1 3000 1024 ([aX 2].map .d) []) (ok0 (aX 2))=true:=by kernel_rfl
theorem aw3:ag_ (cu aG2 3000 1505 ([aX 2].map .d) []) (ok0 (aX 2))=true:=by kernel_rfl
theorem aw4:ag_ (cu aG3 3000 1620 ([aX 2,nl].map .d) []) (ok0 (aX 2))=true:=by kernel_rfl
theorem aw5:ag_ (cu aG4 3000 1610 ([aX 2,aX 2].map .d) []) (aX 4)=true:=by kernel_rfl
theorem aw6:ag_ (cu aG5 3000 1629 ([aX 2,aX 2].map .d) []) zr=true:=by kernel_rfl
theorem aw7:ag_ (cu aG6 3000 1608 ([aX 2,aX 2].map .d) []) (ok0 (aX 4))=true:=by kernel_rfl
theorem Ip:yes (cu aG7 3000 1604 [] [])=true:=by kernel_rfl
theorem aaT:∃ n,cu EB n 1604 [] []=some (dB true,none) :=
 ⟨_,Ql (EA rfl (Y9 aw1)) (Ql (EA rfl (Y9 aw2)) (Ql (EA rfl (Y9 aw3)) (Ql (EA rfl (Y9 aw4)) (Ql (EA rfl (Y9 aw5)) (Ql (EA rfl (Y9 aw6)) (Ql (EA rfl (Y9 aw7)) (abI Ip)))))))⟩
end Fi.S
