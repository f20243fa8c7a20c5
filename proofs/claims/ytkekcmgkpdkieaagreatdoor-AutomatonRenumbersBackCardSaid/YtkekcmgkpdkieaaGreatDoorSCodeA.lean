import Derived.Test.YtkekcmgkpdkieaaGreatDoorSCode0
namespace Fi.S
open Go Fi Go.Proofs
set_option maxHeartbeats 8000000
set_option maxRecDepth 1000000
def f12:ai:=by
 have:aF 12 Tryz.f17=some ?F:=by conv=>lhs;reduce;try dsimp
 exact ?F
def f14:ai:=by
 have:aF 14 Tryz.f79=some ?F:=by conv=>lhs;reduce;try dsimp
 exact ?F
def f15:ai:=by
 have:aF 15 Tryz.f7=some ?F:=by conv=>lhs;reduce;try dsimp
 exact ?F
def f16:ai:=by
 have:aF 16 Tryz.f27=some ?F:=by conv=>lhs;reduce;try dsimp
 exact ?F
def f18:ai:=by
 have:aF 18 Tryz.f87=some ?F:=by conv=>lhs;reduce;try dsimp
 exact ?F
def f19:ai:=by
 have:aF 19 Tryz.f51=some ?F:=by conv=>lhs;reduce;try dsimp
 exact ?F
def f20:ai:=by
 have:aF 20 Tryz.f40=some ?F:=by conv=>lhs;reduce;try dsimp
 exact ?F
def f21:ai:=by
 have:aF 21 Tryz.f52=some ?F:=by conv=>lhs;reduce;try dsimp
 exact ?F
def f26:ai:=by
 have:aF 26 Tryz.f80=some ?F:=by conv=>lhs;reduce;try dsimp
 exact ?F
def f27:ai:=by
 have:aF 27 Tryz.f88=some ?F:=by conv=>lhs;reduce;try dsimp
 exact ?F
def f28:ai:=by
 have:aF 28 Tryz.f34=some ?F:=by conv=>lhs;reduce;try dsimp
 exact ?F
def f29:ai:=by
 have:aF 29 Tryz.f38=some ?F:=by conv=>lhs;reduce;try dsimp
 exact ?F
def f31:ai:=by
 have:aF 31 Tryz.f73=some ?F:=by conv=>lhs;reduce;try dsimp
 exact ?F
def f32:ai:=by
 have:aF 32 Tryz.f45=some ?F:=by conv=>lhs;reduce;try dsimp
 exact ?F
def f34:ai:=by
 have:aF 34 Tryz.f44=some ?F:=by conv=>lhs;reduce;try dsimp
 exact ?F
def f35:ai:=by
 have:aF 35 Tryz.f50=some ?F:=by conv=>lhs;reduce;try dsimp
 exact ?F
def f38:ai:=by
 have:aF 38 Tryz.f41=some ?F:=by conv=>lhs;reduce;try dsimp
 exact ?F
def f39:ai:=by
 have:aF 39 Tryz.f48=some ?F:=by conv=>lhs;reduce;try dsimp
 exact ?F
def f40:ai:=by
 have:aF 40 Tryz.f49=some ?F:=by conv=>lhs;reduce;try dsimp
 exact ?F
def f41:ai:=by
 have:aF 41 Tryz.f125=some ?F:=by conv=>lhs;reduce;try dsimp
 exact ?F
def f42:ai:=by
 have:aF 42 Tryz.f126=some ?F:=by conv=>lhs;reduce;try dsimp
 exact ?F
def f43:ai:=by
 have:aF 43 Tryz.f127=some ?F:=by conv=>lhs;reduce;try dsimp
 exact ?F
def f45:ai:=by
 have:aF 45 Tryz.f128=some ?F:=by conv=>lhs;reduce;try dsimp
 exact ?F
def f46:ai:=by
 have:aF 46 Tryz.f9=some ?F:=by conv=>lhs;reduce;try dsimp
 exact ?F
def f47:ai:=by
 have:aF 47 Tryz.f68=some ?F:=by conv=>lhs;reduce;try dsimp
 exact ?F
def f48:ai:=by
 have:aF 48 Tryz.f69=some ?F:=by conv=>lhs;reduce;try dsimp
 exact ?F
def f49:ai:=by
 have:aF 49 Tryz.f70=some ?F:=by conv=>lhs;reduce;try dsimp
 exact ?F
def f50:ai:=by
 have:aF 50 Tryz.f71=some ?F:=by conv=>lhs;reduce;try dsimp
 exact ?F
def f51:ai:=by
 have:aF 51 Tryz.f72=some ?F:=by conv=>lhs;reduce;try dsimp
 exact ?F
def f53:ai:=by
 have:aF 53 Tryz.f98=some ?F:=by conv=>lhs;reduce;try dsimp
 exact ?F
def f54:ai:=by
 have:aF 54 Tryz.f99=some ?F:=by conv=>lhs;reduce;try dsimp
 exact ?F
def f55:ai:=by
 have:aF 55 Tryz.f100=some ?F:=by conv=>lhs;reduce;try dsimp
 exact ?F
def f56:ai:=by
 have:aF 56 Tryz.f89=some ?F:=by conv=>lhs;reduce;try dsimp
 exact ?F
def f57:ai:=by
 have:aF 57 Tryz.f101=some ?F:=by conv=>lhs;reduce;try dsimp
 exact ?F
def f58:ai:=by
 have:aF 58 Tryz.f102=some ?F:=by conv=>lhs;reduce;try dsimp
 exact ?F
def f62:ai:=by
 have:aF 62 Tryz.f169=some ?F:=by conv=>lhs;reduce;try dsimp
 exact ?F
def f64:ai:=by
 have:aF 64 Tryz.f129=some ?F:=by conv=>lhs;reduce;try dsimp
 exact ?F
def f65:ai:=by
 have:aF 65 Tryz.f134=some ?F:=by conv=>lhs;reduce;try dsimp
 exact ?F
def f66:ai:=by
 have:aF 66 Tryz.f86=some ?F:=by conv=>lhs;reduce;try dsimp
 exact ?F
def f67:ai:=by
 have:aF 67 Tryz.f118=some ?F:=by conv=>lhs;reduce;try dsimp
 exact ?F
def f68:ai:=by
 have:aF 68 Tryz.f119=some ?F:=by conv=>lhs;reduce;try dsimp
 exact ?F
def f69:ai:=by
 have:aF 69 Tryz.f120=some ?F:=by conv=>lhs;reduce;try dsimp
 exact ?F
def f70:ai:=by
 have:aF 70 Tryz.f96=some ?F:=by conv=>lhs;reduce;try dsimp
 exact ?F
def f71:ai:=by
 have:aF 71 Tryz.f93=some ?F:=by conv=>lhs;reduce;try dsimp
 exact ?F
def f72:ai:=by
 have:aF 72 Tryz.f94=some ?F:=by conv=>lhs;reduce;try dsimp
 exact ?F
def f73:ai:=by
 have:aF 73 Tryz.f95=some ?F:=by conv=>lhs;reduce;try dsimp
 exact ?F
def Xh:TF:=[(12,f12),(14,f14),(15,f15),(16,f16),(18,f18),(19,f19),(20,f20),(21,f21),(26,f26),(27,f27),(28,f28),(29,f29),(31,f31),(32,f32),(34,f34),(35,f35),(38,f38),(39,f39),(40,f40),(41,f41),(42,f42),(43,f43),(45,f45),(46,f46),(47,f47),(48,f48),(49,f49),(50,f50),(51,f51),(53,f53),(54,f54),(55,f55),(56,f56),(57,f57),(58,f58),(62,f62),(64,f64),(65,f65),(66,f66),(67,f67),(68,f68),(69,f69),(70,f70),(71,f71),(72,f72),(73,f73)]
theorem aju:yh Xh:=by
 unfold Xh
 repeat refine Ig (by kernel_rfl) ?_
 exact Ih
end Fi.S
