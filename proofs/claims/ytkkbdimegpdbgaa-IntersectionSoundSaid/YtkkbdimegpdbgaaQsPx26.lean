/- Functions of the program as Lean functions, and the walks that show that the calls answer so; written by a program of this session (a changed print) and by hand. -/
import Derived.Test.YtkkbdimegpdbgaaQsPx0
import Derived.Test.YtkkbdimegpdbgaaQsPx22
namespace Go.Proofs.Ytkkbdimegpdbgaa.P
open Go.RowKit Go.Proofs.YtkkbdimegpdbgaaW.PrintWords Go.Proofs.YtkkbdimegpdbgaaW.PrintLast Go.Proofs.YtkkbdimegpdbgaaW.PrintMore
attribute [local go_sem] kF kD kV kU uJ uK kG kE
set_option linter.unusedVariables false
set_option linter.unusedSimpArgs false
def vV.T6 : Bool × List (List Nat × List Nat):=(true,[([],[]),([0],[0]),([1],[1]),([2],[2]),([3],[3]),([4,3],[3,4]),([5,3],[3,5]),([6,3],[3,6]),([3,7],[3,7]),([8,3],[8]),([9],[9]),([9],[9]),([11,9,9],[9,11]),([9],[9]),([12,13,9],[9,12,13]),([10,14,12,9],[9,10,14]),([15,9],[9,15]),([9,16],[9,16]),([17,15,0,1,2,3,4,5,6,7,8,9,10,11,12,13,14,15,16,17],[17])])
def vV.B6 : List Nat:=[0,1,3,7,15,31,63,127,255,511,1023,1023,3071,1023,15359,32767,65535,131071,262143]
theorem vV.tab6 : rtab .any (opsOf Try.f42 6) = vV.T6:=by kernel_rfl
theorem vV.bits6 : Qv vV.T6.2 vV.B6 = true:=by kernel_rfl
def vV.T10 : Bool × List (List Nat × List Nat):=(true,[([],[]),([],[]),([1],[1]),([2],[2]),([3],[3]),([],[]),([],[]),([],[]),([7],[7]),([8],[8]),([6,9],[6,9]),([0,4,5,10],[0,4,5,10]),([11,11],[11]),([12],[12]),([12],[12]),([14,12],[12,14]),([15,12],[12,15]),([16,12],[12,16]),([12],[12]),([12],[12]),([19,12],[12,19]),([20,12],[12,20]),([18,21,12],[12,18,21]),([12],[12]),([13,17,22,23,12,12],[12,13,17,22,23]),([12,24],[12,24]),([25,24,0,1,2,3,4,5,6,7,8,9,10,11,12,13,14,15,16,17,18,19,20,21,22,23,24,25],[25])])
def vV.B10 : List Nat:=[0,0,2,6,14,0,0,0,128,384,960,2047,4095,8191,8191,24575,57343,122879,8191,8191,532479,1581055,3940351,8191,16777215,33554431,67108863]
theorem vV.tab10 : rtab .any (opsOf Try.f42 10) = vV.T10:=by kernel_rfl
theorem vV.bits10 : Qv vV.T10.2 vV.B10 = true:=by kernel_rfl
end Go.Proofs.Ytkkbdimegpdbgaa.P
