/- alive returns true: a piece of its evaluation by the kernel. -/
import Derived.Test.YtdpfgjljehajbaaGreatDoorHk
set_option linter.unusedVariables false
set_option linter.unusedSimpArgs false
set_option maxRecDepth 100000
namespace Go.Proofs
open Go Go.Ev
def Tryz.m13a:List AV:=[.agg [.vs [] 0 .zero,.vs [] 0 .zero],.str [109,97,115,116,32,50,32,54,48]]
def Tryz.m13r:CR:=.ret (.tup [.agg [.vs [.int .i64 (2),.int .i64 (60)] 1 .none,.vs [] 0 .none],.int .i64 (0)])
def Tryz.m14a:List AV:=[.agg [.vs [.int .i64 (2),.int .i64 (60)] 1 .none,.vs [] 0 .none],.str [109,97,115,116,32,49,32,48]]
def Tryz.m14r:CR:=.ret (.tup [.agg [.vs [.int .i64 (1),.int .i64 (0),.int .i64 (2),.int .i64 (60)] 2 .none,.vs [] 0 .none],.int .i64 (0)])
def Tryz.m15a:List AV:=[.agg [.vs [.int .i64 (1),.int .i64 (0),.int .i64 (2),.int .i64 (60)] 2 .none,.vs [] 0 .none],.str [100,101,99,114,101,101,32,49,32,102,108,121,32,48,32,55,32,49,32,48,32,48,32,52,56,48,32,49,50,48,48]]
def Tryz.m15r:CR:=.ret (.tup [.agg [.vs [.int .i64 (1),.int .i64 (0),.int .i64 (2),.int .i64 (60)] 2 .none,.vs [.int .i64 (1),.int .u8 (1),.int .i64 (0),.int .i64 (7),.int .i64 (1),.int .i64 (0),.int .i64 (0),.int .i64 (480),.int .i64 (1200)] 1 .none],.int .i64 (0)])
def Tryz.m16a:List AV:=[.agg [.vs [.int .i64 (1),.int .i64 (0),.int .i64 (2),.int .i64 (60)] 2 .none,.vs [.int .i64 (1),.int .u8 (1),.int .i64 (0),.int .i64 (7),.int .i64 (1),.int .i64 (0),.int .i64 (0),.int .i64 (480),.int .i64 (1200)] 1 .none],.str [100,101,99,114,101,101,32,50,32,104,97,108,102,32,48,32,48,32,49,32,49,32,50,32,48,32,55,50,48]]
def Tryz.m16r:CR:=.ret (.tup [.agg [.vs [.int .i64 (1),.int .i64 (0),.int .i64 (2),.int .i64 (60)] 2 .none,.vs [.int .i64 (1),.int .u8 (1),.int .i64 (0),.int .i64 (7),.int .i64 (1),.int .i64 (0),.int .i64 (0),.int .i64 (480),.int .i64 (1200),.int .i64 (2),.int .u8 (3),.int .i64 (0),.int .i64 (0),.int .i64 (1),.int .i64 (1),.int .i64 (2),.int .i64 (0),.int .i64 (720)] 2 .none],.int .i64 (0)])
def Tryz.m17a:List AV:=[.agg [.vs [.int .i64 (1),.int .i64 (0),.int .i64 (2),.int .i64 (60)] 2 .none,.vs [.int .i64 (1),.int .u8 (1),.int .i64 (0),.int .i64 (7),.int .i64 (1),.int .i64 (0),.int .i64 (0),.int .i64 (480),.int .i64 (1200),.int .i64 (2),.int .u8 (3),.int .i64 (0),.int .i64 (0),.int .i64 (1),.int .i64 (1),.int .i64 (2),.int .i64 (0),.int .i64 (720)] 2 .none],.str [100,101,99,114,101,101,32,51,32,102,108,121,32,50,32,57,32,53,32,49,32,48,32,54,48,48,32,54,54,48]]
def Tryz.m17r:CR:=.ret (.tup [.agg [.vs [.int .i64 (1),.int .i64 (0),.int .i64 (2),.int .i64 (60)] 2 .none,.vs [.int .i64 (1),.int .u8 (1),.int .i64 (0),.int .i64 (7),.int .i64 (1),.int .i64 (0),.int .i64 (0),.int .i64 (480),.int .i64 (1200),.int .i64 (2),.int .u8 (3),.int .i64 (0),.int .i64 (0),.int .i64 (1),.int .i64 (1),.int .i64 (2),.int .i64 (0),.int .i64 (720),.int .i64 (3),.int .u8 (1),.int .i64 (2),.int .i64 (9),.int .i64 (5),.int .i64 (1),.int .i64 (0),.int .i64 (600),.int .i64 (660)] 3 .none],.int .i64 (0)])
def Tryz.m18a:List AV:=[.agg [.vs [.int .i64 (1),.int .i64 (0),.int .i64 (2),.int .i64 (60)] 2 .none,.vs [.int .i64 (1),.int .u8 (1),.int .i64 (0),.int .i64 (7),.int .i64 (1),.int .i64 (0),.int .i64 (0),.int .i64 (480),.int .i64 (1200),.int .i64 (2),.int .u8 (3),.int .i64 (0),.int .i64 (0),.int .i64 (1),.int .i64 (1),.int .i64 (2),.int .i64 (0),.int .i64 (720),.int .i64 (3),.int .u8 (1),.int .i64 (2),.int .i64 (9),.int .i64 (5),.int .i64 (1),.int .i64 (0),.int .i64 (600),.int .i64 (660)] 3 .none],.int .i64 (2),.int .i64 (1980)]
def Tryz.m18r:CR:=.ret (.tup [.agg [.int .i64 (9),.bool true],.int .i64 (0)])
def Tryz.m19a:List AV:=[.agg [.vs [.int .i64 (1),.int .i64 (0),.int .i64 (2),.int .i64 (60)] 2 .none,.vs [.int .i64 (1),.int .u8 (1),.int .i64 (0),.int .i64 (7),.int .i64 (1),.int .i64 (0),.int .i64 (0),.int .i64 (480),.int .i64 (1200),.int .i64 (2),.int .u8 (3),.int .i64 (0),.int .i64 (0),.int .i64 (1),.int .i64 (1),.int .i64 (2),.int .i64 (0),.int .i64 (720),.int .i64 (3),.int .u8 (1),.int .i64 (2),.int .i64 (9),.int .i64 (5),.int .i64 (1),.int .i64 (0),.int .i64 (600),.int .i64 (660)] 3 .none],.int .i64 (2),.int .i64 (1980)]
def Tryz.m19r:CR:=.ret (.tup [.int .i64 (3),.int .i64 (2),.int .i64 (0)])
def Tryz.m20a:List AV:=[.agg [.vs [.int .i64 (1),.int .i64 (0),.int .i64 (2),.int .i64 (60)] 2 .none,.vs [.int .i64 (1),.int .u8 (1),.int .i64 (0),.int .i64 (7),.int .i64 (1),.int .i64 (0),.int .i64 (0),.int .i64 (480),.int .i64 (1200),.int .i64 (2),.int .u8 (3),.int .i64 (0),.int .i64 (0),.int .i64 (1),.int .i64 (1),.int .i64 (2),.int .i64 (0),.int .i64 (720),.int .i64 (3),.int .u8 (1),.int .i64 (2),.int .i64 (9),.int .i64 (5),.int .i64 (1),.int .i64 (0),.int .i64 (600),.int .i64 (660)] 3 .none],.int .i64 (1),.int .i64 (2640)]
def Tryz.m20r:CR:=.ret (.tup [.int .i64 (3360),.bool true,.int .i64 (0)])
def Tryz.m21a:List AV:=[.agg [.vs [.int .i64 (1),.int .i64 (0),.int .i64 (2),.int .i64 (60)] 2 .none,.vs [.int .i64 (1),.int .u8 (1),.int .i64 (0),.int .i64 (7),.int .i64 (1),.int .i64 (0),.int .i64 (0),.int .i64 (480),.int .i64 (1200),.int .i64 (2),.int .u8 (3),.int .i64 (0),.int .i64 (0),.int .i64 (1),.int .i64 (1),.int .i64 (2),.int .i64 (0),.int .i64 (720),.int .i64 (3),.int .u8 (1),.int .i64 (2),.int .i64 (9),.int .i64 (5),.int .i64 (1),.int .i64 (0),.int .i64 (600),.int .i64 (660)] 3 .none],.int .i64 (0),.int .i64 (1440)]
def Tryz.m21r:CR:=.ret (.tup [.vs [.int .i64 (3)] 1 .none,.int .i64 (0)])
def Tryz.m22a:List AV:=[.agg [.int .i64 (600),.int .i64 (603),.bool true,.bool true,.bool true,.bool true,.bool true,.bool true,.bool true],.int .i64 (0),.vs [.int .i64 (600),.int .i64 (2),.int .i64 (1),.int .i64 (600),.int .i64 (2),.int .i64 (1)] 2 .none]
def Tryz.m22r:CR:=.ret (.tup [.vs [.int .i64 (600),.int .i64 (601),.int .i64 (2040),.int .i64 (2041)] 4 .none,.int .i64 (0)])
def Tryz.m23a:List AV:=[.int .i64 (0),.int .i64 (-60)]
def Tryz.m23r:CR:=.ret (.tup [.int .i64 (-1),.int .i64 (1380),.int .i64 (0)])
def Tryz.m24a:List AV:=[.int .i64 (4),.int .i64 (1),.bool false]
def Tryz.m24r:CR:=.ret (.int .i64 (15))
end Go.Proofs
