/- A closed fact of the program. -/
import Derived.ProofKit
import Derived.OpenShut
import Derived.LaidMore
import Derived.Lay
import Derived.ReadAgain
import Derived.SevenTiedAt
import Derived.Stop.Joined
import Derived.Test.YtdpfgjljehajbaaGreatDoorTie
import Derived.Test.YtdpfgjljehajbaaGreatDoorCards
set_option linter.unusedVariables false
set_option linter.unusedSimpArgs false
set_option maxRecDepth 100000
namespace Go.Proofs.YtdpfgjljehajbaaGreatDoor
open Go Go.ChangeShapes Go.WideShapes Go.ChangeAt Go.RowKit
def ioL:List Char:=['h','a','r','n','e','s','s',' ','3','a','1','8','6','a','f','1','b','2','0','2','7','b','a','3','3','b','2','8','8','5','b','f','5','8','4','0','c','d','c','6','f','e','a','d','5','f','2','7','c','a','1','b','a','8','1','e','1','2','4','a','e','a','9','3','e','a','c','2','5','0','d','8',' ','c','u','t',' ','a','t',' ','s','e','n','n','e','t','/','s','e','n','n','e','t','l','a','w','0','5','.','H','o','n','o','u','r','s','A','t',' ','s','e','n','n','e','t','/','s','e','n','n','e','t','l','a','w','0','5','.','H','o','n','o','u','r','s','N','e','x','t',' ','s','e','n','n','e','t','/','s','e','n','n','e','t','l','a','w','0','5','.','H','o','n','o','u','r','s','I','d','l','e',' ','s','e','n','n','e','t','/','s','e','n','n','e','t','l','a','w','0','5','.','H','o','n','o','u','r','s','G','u','n','s',' ','s','e','n','n','e','t','/','s','e','n','n','e','t','l','a','w','0','5','.','H','o','n','o','u','r','s','W','r','i','t','e','s',' ','s','e','n','n','e','t','/','s','e','n','n','e','t','l','a','w','0','5','.','H','o','n','o','u','r','s','E','n','t','e','r','s',' ','s','e','n','n','e','t','/','s','e','n','n','e','t','l','a','w','0','5','.','H','o','n','o','u','r','s','Z','o','n','e','s',' ','s','e','n','n','e','t','/','s','e','n','n','e','t','l','a','w','0','5','.','H','o','n','o','u','r','s','C','h','e','c','k','s',' ','s','e','n','n','e','t','/','s','e','n','n','e','t','l','a','w','0','5','.','H','o','n','o','u','r','s','R','a','n','k','s',' ','s','e','n','n','e','t','/','s','e','n','n','e','t','l','a','w','0','5','.','H','o','n','o','u','r','s','T','i','m','e','s',' ','s','e','n','n','e','t','/','s','e','n','n','e','t','l','a','w','0','5','.','H','o','n','o','u','r','s','L','i','n','e','s',' ','s','e','n','n','e','t','/','s','e','n','n','e','t','l','a','w','0','5','.','H','o','n','o','u','r','s','M','i','n','u','t','e','s',' ','s','e','n','n','e','t','/','s','e','n','n','e','t','l','a','w','0','5','.','H','o','n','o','u','r','s','B','a','t','t','e','r','y',' ','s','e','n','n','e','t','/','s','e','n','n','e','t','l','a','w','0','5','.','H','o','n','o','u','r','s','F','i','r','s','t',' ','s','e','n','n','e','t','/','s','e','n','n','e','t','l','a','w','0','5','.','H','o','n','o','u','r','s','T','u','n','e','s',' ','s','e','n','n','e','t','/','s','e','n','n','e','t','l','a','w','0','5','.','H','o','n','o','u','r','s','T','u','r','n','s',' ','s','e','n','n','e','t','/','s','e','n','n','e','t','l','a','w','0','5','.','H','o','n','o','u','r','s','T','i','m','e','s','S','p','e','n','t',' ','s','e','n','n','e','t','/','s','e','n','n','e','t','l','a','w','0','5','.','H','o','n','o','u','r','s','G','a','p','s',' ','s','e','n','n','e','t','/','s','e','n','n','e','t','l','a','w','0','5','.','H','o','n','o','u','r','s','M','e','m','o','r','y',' ','s','e','n','n','e','t','/','s','e','n','n','e','t','l','a','w','0','5','.','H','o','n','o','u','r','s','D','i','f','f','e','r',' ','s','e','n','n','e','t','/','s','e','n','n','e','t','l','a','w','0','5','.','H','o','n','o','u','r','s','W','i','t','n','e','s','s',' ','s','e','n','n','e','t','/','s','e','n','n','e','t','l','a','w','0','5','.','H','o','n','o','u','r','s','L','e','a','v','e']
theorem w0w:Tryz.prog.initOrder=String.ofList ioL:=by kernel_rfl
theorem w1o:behindMainWord (wordsSigns Tryz.prog.initOrder.toList)=(behindMainWord (wordsSigns ioL)):=by rw[w0w,String.toList_ofList]
theorem w2i:Tryz.prog.laysLater=false:=by kernel_rfl
theorem w2m : ((stripLifts liftWords (behindMainWord (wordsSigns ioL))).1.contains "finals" || !Tryz.prog.laysLater) = true := by rw [w2i, Bool.not_false, Bool.or_true]
theorem w2n : ((stripLifts liftWords (behindMainWord (wordsSigns ioL))).2.head? == some "cut".toList) = true := by kernel_rfl
theorem w2l : ((stripLifts liftWords (behindMainWord (wordsSigns ioL))).1.contains "reflectrows" || !Tryz.prog.bearsReflect) = true := by kernel_rfl
theorem w2k : ((stripLifts liftWords (behindMainWord (wordsSigns ioL))).1.contains "reflectrows" || !(stripLifts liftWords (behindMainWord (wordsSigns ioL))).1.contains "leanrows") = true := by kernel_rfl
theorem w2j:Tryz.prog.doorFits (stripLifts liftWords (behindMainWord (wordsSigns ioL))).1=true:=by kernel_rfl
theorem y9t:Tryz.prog.mayEnter=true:=by
 have ha:=w2n
 have hb:=w2m
 have hc:=w2l
 have hd:=w2k
 have he:=w2j
 unfold Program.mayEnter
 rw[w1o]
 revert ha hb hc hd he
 generalize (behindMainWord (wordsSigns ioL))=W
 intro ha hb hc hd he
 cases W with
 | nil=>exact absurd ha (by decide)
 | cons c r =>
  simp only
  rw[ha,hb,hc,hd,he]
  simp
end Go.Proofs.YtdpfgjljehajbaaGreatDoor
