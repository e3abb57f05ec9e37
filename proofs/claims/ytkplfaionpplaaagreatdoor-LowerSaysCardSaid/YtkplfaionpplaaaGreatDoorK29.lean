/- Part 29: B63. -/
import Derived.Test.YtkplfaionpplaaaGreatDoorK28
set_option linter.unusedVariables false
set_option linter.unusedSimpArgs false
namespace Go.Proofs.YtkplfaionpplaaaGreatDoor
open Go.RowKit Go.Proofs.YtkplfaionpplaaaGreatDoorW.PrintLast
structure RunAt (w0 w:World)(C:RC)(R:Al.RRes)(gk fuel:Nat)(pc:Nat)(regs mm:List Int)(leaks:List Al.Leak)(vl:Value)(steps:Nat):Prop where
 h:RW w0 w C regs mm leaks vl steps
 run:Al.rrun C.c [] C.mem gk pc regs mm leaks steps=R
 fuel:gk+steps=fuel
 few:leaks.length<=2 * steps
 pc:pc<=C.c.length
 regs:∀ x∈regs,0<=x/\x<18446744073709551616
 words:∀ x∈mm,0<=x/\x<18446744073709551616
theorem RunAt.drew {w0 w:World}{C:RC}{R:Al.RRes}{gk fuel pc:Nat}{regs mm:List Int}{leaks:List Al.Leak}{vl:Value}{steps:Nat}(h:RunAt w0 w C R gk fuel pc regs mm leaks vl steps):RunAt w0 w.drew C R gk fuel pc regs mm leaks vl steps:=⟨h.h.drew,h.run,h.fuel,h.few,h.pc,h.regs,h.words⟩
def InsB (w:World)(kI:Nat)(i:Al.Inst):Prop:=w.heap[kI]?=some (.cells #[.int .i64 i.op,.int .i64 i.d,.int .i64 i.a,.int .i64 i.b,.int .i64 i.c,.int .i64 i.k] 97 (0,0))
theorem InsB.cells {w:World}{kI:Nat}{i:Al.Inst}(h:InsB w kI i):w.cell? ⟨kI,0,none⟩=some (.int .i64 i.op)/\w.cell? ⟨kI,1,none⟩=some (.int .i64 i.d)/\w.cell? ⟨kI,2,none⟩=some (.int .i64 i.a)/\w.cell? ⟨kI,3,none⟩=some (.int .i64 i.b)/\w.cell? ⟨kI,4,none⟩=some (.int .i64 i.c)/\w.cell? ⟨kI,5,none⟩=some (.int .i64 i.k):=
 ⟨(cell_blk h _).trans rfl,(cell_blk h _).trans rfl,(cell_blk h _).trans rfl,(cell_blk h _).trans rfl,(cell_blk h _).trans rfl,(cell_blk h _).trans rfl⟩
end Go.Proofs.YtkplfaionpplaaaGreatDoor
