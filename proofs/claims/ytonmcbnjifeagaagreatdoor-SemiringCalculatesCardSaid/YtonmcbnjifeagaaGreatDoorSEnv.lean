/- The seat's environment. -/
import Derived.Test.YtonmcbnjifeagaaGreatDoorSCode
import Derived.Test.YtonmcbnjifeagaaGreatDoorFiF
noncomputable section
noncomputable section
namespace Fi.S
open Go Fi
def eZ (k:Nat):Option D:=bif Nat.beq k 3 then some Ra else none
def yR (g:Nat):Option (List D->Option D):=bif Nat.beq g 76 then some Rb else bif Nat.beq g 129 then some Q_ else none
def E0:Env:={fn:=fn,eZ:=eZ,iY:=yR,iA:=fun _=>none}
end Fi.S
