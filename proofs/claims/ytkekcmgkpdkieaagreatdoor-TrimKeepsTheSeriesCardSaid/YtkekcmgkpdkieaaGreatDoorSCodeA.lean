import Derived.Test.YtkekcmgkpdkieaaGreatDoorSCode0
namespace Fi.S
open Go Fi Go.Proofs
set_option maxHeartbeats 8000000
set_option maxRecDepth 1000000
def f12:=aH 12 Tryz.f17 _
def f14:=aH 14 Tryz.f79 _
def f15:=aH 15 Tryz.f7 _
def f16:=aH 16 Tryz.f27 _
def f18:=aH 18 Tryz.f87 _
def f19:=aH 19 Tryz.f51 _
def f20:=aH 20 Tryz.f40 _
def f21:=aH 21 Tryz.f52 _
def f26:=aH 26 Tryz.f80 _
def f27:=aH 27 Tryz.f88 _
def f28:=aH 28 Tryz.f34 _
def f29:=aH 29 Tryz.f38 _
def f31:=aH 31 Tryz.f73 _
def f33:=aH 33 Tryz.f63 _
def f34:=aH 34 Tryz.f44 _
def f35:=aH 35 Tryz.f50 _
def f38:=aH 38 Tryz.f41 _
def f39:=aH 39 Tryz.f48 _
def f40:=aH 40 Tryz.f49 _
def f41:=aH 41 Tryz.f125 _
def f42:=aH 42 Tryz.f126 _
def f43:=aH 43 Tryz.f127 _
def f45:=aH 45 Tryz.f128 _
def f46:=aH 46 Tryz.f9 _
def f47:=aH 47 Tryz.f68 _
def f48:=aH 48 Tryz.f69 _
def f49:=aH 49 Tryz.f70 _
def f50:=aH 50 Tryz.f71 _
def f51:=aH 51 Tryz.f72 _
def f53:=aH 53 Tryz.f98 _
def f54:=aH 54 Tryz.f99 _
def f55:=aH 55 Tryz.f100 _
def f56:=aH 56 Tryz.f89 _
def f57:=aH 57 Tryz.f101 _
def f58:=aH 58 Tryz.f102 _
def f62:=aH 62 Tryz.f169 _
def f64:=aH 64 Tryz.f129 _
def f65:=aH 65 Tryz.f134 _
def f66:=aH 66 Tryz.f86 _
def f67:=aH 67 Tryz.f118 _
def f68:=aH 68 Tryz.f119 _
def f69:=aH 69 Tryz.f120 _
def f70:=aH 70 Tryz.f96 _
def f71:=aH 71 Tryz.f93 _
def f72:=aH 72 Tryz.f94 _
def f73:=aH 73 Tryz.f95 _
def f74:=aH 74 Tryz.f46 _
def f77:=aH 77 Tryz.f90 _
def f78:=aH 78 Tryz.f97 _
def Y1:TF:=[(12,f12),(14,f14),(15,f15),(16,f16),(18,f18),(19,f19),(20,f20),(21,f21),(26,f26),(27,f27),(28,f28),(29,f29),(31,f31),(33,f33),(34,f34),(35,f35),(38,f38),(39,f39),(40,f40),(41,f41),(42,f42),(43,f43),(45,f45),(46,f46),(47,f47),(48,f48),(49,f49),(50,f50),(51,f51),(53,f53),(54,f54),(55,f55),(56,f56),(57,f57),(58,f58),(62,f62),(64,f64),(65,f65),(66,f66),(67,f67),(68,f68),(69,f69),(70,f70),(71,f71),(72,f72),(73,f73),(74,f74),(77,f77),(78,f78)]
theorem al0:ze Y1:=by
 unfold Y1
 repeat refine Jf (by kernel_rfl) ?_
 exact Jg
end Fi.S
