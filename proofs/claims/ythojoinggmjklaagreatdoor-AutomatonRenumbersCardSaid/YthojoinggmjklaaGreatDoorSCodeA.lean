import Derived.Test.YthojoinggmjklaaGreatDoorSCode0
set_option linter.unusedVariables false
set_option linter.unusedSimpArgs false
namespace Fi.S
open Go Fi Go.Proofs
set_option maxHeartbeats 8000000
set_option maxRecDepth 1000000
def f12:ai:=by
 have:aC 12 Tryz.f24=some ?F:=by conv=>lhs;reduce;try dsimp
 exact ?F
def f14:ai:=by
 have:aC 14 Tryz.f65=some ?F:=by conv=>lhs;reduce;try dsimp
 exact ?F
def f18:ai:=by
 have:aC 18 Tryz.f27=some ?F:=by conv=>lhs;reduce;try dsimp
 exact ?F
def f19:ai:=by
 have:aC 19 Tryz.f78=some ?F:=by conv=>lhs;reduce;try dsimp
 exact ?F
def f20:ai:=by
 have:aC 20 Tryz.f13=some ?F:=by conv=>lhs;reduce;try dsimp
 exact ?F
def f26:ai:=by
 have:aC 26 Tryz.f28=some ?F:=by conv=>lhs;reduce;try dsimp
 exact ?F
def f27:ai:=by
 have:aC 27 Tryz.f29=some ?F:=by conv=>lhs;reduce;try dsimp
 exact ?F
def f28:ai:=by
 have:aC 28 Tryz.f30=some ?F:=by conv=>lhs;reduce;try dsimp
 exact ?F
def f29:ai:=by
 have:aC 29 Tryz.f44=some ?F:=by conv=>lhs;reduce;try dsimp
 exact ?F
def f30:ai:=by
 have:aC 30 Tryz.f9=some ?F:=by conv=>lhs;reduce;try dsimp
 exact ?F
def f31:ai:=by
 have:aC 31 Tryz.f26=some ?F:=by conv=>lhs;reduce;try dsimp
 exact ?F
def f33:ai:=by
 have:aC 33 Tryz.f21=some ?F:=by conv=>lhs;reduce;try dsimp
 exact ?F
def f34:ai:=by
 have:aC 34 Tryz.f55=some ?F:=by conv=>lhs;reduce;try dsimp
 exact ?F
def f35:ai:=by
 have:aC 35 Tryz.f108=some ?F:=by conv=>lhs;reduce;try dsimp
 exact ?F
def f38:ai:=by
 have:aC 38 Tryz.f14=some ?F:=by conv=>lhs;reduce;try dsimp
 exact ?F
def f39:ai:=by
 have:aC 39 Tryz.f49=some ?F:=by conv=>lhs;reduce;try dsimp
 exact ?F
def f40:ai:=by
 have:aC 40 Tryz.f50=some ?F:=by conv=>lhs;reduce;try dsimp
 exact ?F
def f41:ai:=by
 have:aC 41 Tryz.f100=some ?F:=by conv=>lhs;reduce;try dsimp
 exact ?F
def f42:ai:=by
 have:aC 42 Tryz.f54=some ?F:=by conv=>lhs;reduce;try dsimp
 exact ?F
def f43:ai:=by
 have:aC 43 Tryz.f56=some ?F:=by conv=>lhs;reduce;try dsimp
 exact ?F
def f45:ai:=by
 have:aC 45 Tryz.f101=some ?F:=by conv=>lhs;reduce;try dsimp
 exact ?F
def f48:ai:=by
 have:aC 48 Tryz.f31=some ?F:=by conv=>lhs;reduce;try dsimp
 exact ?F
def f49:ai:=by
 have:aC 49 Tryz.f110=some ?F:=by conv=>lhs;reduce;try dsimp
 exact ?F
def f53:ai:=by
 have:aC 53 Tryz.f77=some ?F:=by conv=>lhs;reduce;try dsimp
 exact ?F
def f54:ai:=by
 have:aC 54 Tryz.f94=some ?F:=by conv=>lhs;reduce;try dsimp
 exact ?F
def f55:ai:=by
 have:aC 55 Tryz.f106=some ?F:=by conv=>lhs;reduce;try dsimp
 exact ?F
def f56:ai:=by
 have:aC 56 Tryz.f32=some ?F:=by conv=>lhs;reduce;try dsimp
 exact ?F
def f59:ai:=by
 have:aC 59 Tryz.f11=some ?F:=by conv=>lhs;reduce;try dsimp
 exact ?F
def f62:ai:=by
 have:aC 62 Tryz.f226=some ?F:=by conv=>lhs;reduce;try dsimp
 exact ?F
def f64:ai:=by
 have:aC 64 Tryz.f57=some ?F:=by conv=>lhs;reduce;try dsimp
 exact ?F
def f65:ai:=by
 have:aC 65 Tryz.f58=some ?F:=by conv=>lhs;reduce;try dsimp
 exact ?F
def f66:ai:=by
 have:aC 66 Tryz.f76=some ?F:=by conv=>lhs;reduce;try dsimp
 exact ?F
def f67:ai:=by
 have:aC 67 Tryz.f51=some ?F:=by conv=>lhs;reduce;try dsimp
 exact ?F
def f68:ai:=by
 have:aC 68 Tryz.f52=some ?F:=by conv=>lhs;reduce;try dsimp
 exact ?F
def f69:ai:=by
 have:aC 69 Tryz.f53=some ?F:=by conv=>lhs;reduce;try dsimp
 exact ?F
def f71:ai:=by
 have:aC 71 Tryz.f87=some ?F:=by conv=>lhs;reduce;try dsimp
 exact ?F
def f72:ai:=by
 have:aC 72 Tryz.f88=some ?F:=by conv=>lhs;reduce;try dsimp
 exact ?F
def f73:ai:=by
 have:aC 73 Tryz.f89=some ?F:=by conv=>lhs;reduce;try dsimp
 exact ?F
def f74:ai:=by
 have:aC 74 Tryz.f90=some ?F:=by conv=>lhs;reduce;try dsimp
 exact ?F
def f77:ai:=by
 have:aC 77 Tryz.f33=some ?F:=by conv=>lhs;reduce;try dsimp
 exact ?F
def f78:ai:=by
 have:aC 78 Tryz.f80=some ?F:=by conv=>lhs;reduce;try dsimp
 exact ?F
def f79:ai:=by
 have:aC 79 Tryz.f82=some ?F:=by conv=>lhs;reduce;try dsimp
 exact ?F
def f80:ai:=by
 have:aC 80 Tryz.f83=some ?F:=by conv=>lhs;reduce;try dsimp
 exact ?F
def f81:ai:=by
 have:aC 81 Tryz.f84=some ?F:=by conv=>lhs;reduce;try dsimp
 exact ?F
def f82:ai:=by
 have:aC 82 Tryz.f85=some ?F:=by conv=>lhs;reduce;try dsimp
 exact ?F
def f83:ai:=by
 have:aC 83 Tryz.f86=some ?F:=by conv=>lhs;reduce;try dsimp
 exact ?F
def f84:ai:=by
 have:aC 84 Tryz.f59=some ?F:=by conv=>lhs;reduce;try dsimp
 exact ?F
def SQ:TF:=[(12,f12),(14,f14),(18,f18),(19,f19),(20,f20),(26,f26),(27,f27),(28,f28),(29,f29),(30,f30),(31,f31),(33,f33),(34,f34),(35,f35),(38,f38),(39,f39),(40,f40),(41,f41),(42,f42),(43,f43),(45,f45),(48,f48),(49,f49),(53,f53),(54,f54),(55,f55),(56,f56),(59,f59),(62,f62),(64,f64),(65,f65),(66,f66),(67,f67),(68,f68),(69,f69),(71,f71),(72,f72),(73,f73),(74,f74),(77,f77),(78,f78),(79,f79),(80,f80),(81,f81),(82,f82),(83,f83),(84,f84)]
theorem afd:vN SQ:=by
 unfold SQ
 repeat refine ET (by kernel_rfl) ?_
 exact EU
end Fi.S
