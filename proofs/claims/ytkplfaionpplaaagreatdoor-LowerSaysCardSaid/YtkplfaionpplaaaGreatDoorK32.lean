/- Part 32: B67. -/
import Derived.Test.YtkplfaionpplaaaGreatDoorK31
set_option linter.unusedVariables false
set_option linter.unusedSimpArgs false
namespace Go.Proofs.YtkplfaionpplaaaGreatDoor
open Go.RowKit Go.Proofs.YtkplfaionpplaaaGreatDoorW.PrintWords
def resZ:Array Value:= #[.int .i64 0,.slice none 0 0,.slice none 0 0,.int .i64 0,.int .i64 0]
structure PS (w0:World)(kp kc b1:Nat)(kz:Option Nat)(p:Al.Prog)(Va Ab:Option Addr)(vc cb:Nat)(ia:Option Addr)(ic:Nat)(CI:List Al.Inst)(M:Nat)(w:World):Prop where
 P:PBox w kp p Va Ab vc cb
 C:w.heap[kc]?=some (.cells #[.slice ia CI.length ic,.int .i64 24,.int .i64 M] 41 (0,0))
 O:w.ownsRow b1 97 6 (.slice ia CI.length ic) CI.length (instsV CI)
 b:Below w0.heap.size w0 w
 z:∀ k,kz=some k->w0.heap.size<=k/\w.heap[k]?=some (.cells resZ 51 (0,0))
section
variable {w0 w w':World} {kp kc b1:Nat} {kz:Option Nat} {p:Al.Prog} {Va Ab:Option Addr} {vc cb:Nat} {ia:Option Addr} {ic:Nat} {CI:List Al.Inst} {M:Nat}
theorem PS.drew (h:PS w0 kp kc b1 kz p Va Ab vc cb ia ic CI M w):PS w0 kp kc b1 kz p Va Ab vc cb ia ic CI M w.drew:=⟨h.P,h.C,own_of h.O fun _ _=>rfl,below_drew' h.b,h.z⟩
theorem PS.below (h:PS w0 kp kc b1 kz p Va Ab vc cb ia ic CI M w)(g:Below w.heap.size w w'):PS w0 kp kc b1 kz p Va Ab vc cb ia ic CI M w':=
 ⟨below_blk g h.P (blk_lt h.P),below_blk g h.C (blk_lt h.C),own_of h.O fun k hk=>g.block k (h.O.lt k hk).2,h.b.trans (lower_below g h.b.size),fun k hk=>⟨(h.z k hk).1,below_blk g (h.z k hk).2 (blk_lt (h.z k hk).2)⟩⟩
theorem PS.alloc (h:PS w0 kp kc b1 none p Va Ab vc cb ia ic CI M w):PS w0 kp kc b1 (some w.heap.size) p Va Ab vc cb ia ic CI M (w.alloc (.cells #[.int .i64 0,.slice none 0 0,.slice none 0 0,.int .i64 0,.int .i64 0] 51)):=
 ⟨alloc_blk _ h.P,alloc_blk _ h.C,h.O.alloc _,h.b.alloc h.b.size _,fun k hk=>by cases hk;exact⟨h.b.size,heap_alloc_new w _⟩⟩
theorem PS.cells (h:PS w0 kp kc b1 kz p Va Ab vc cb ia ic CI M w):w.cell? ⟨kp,0,none⟩=some (.int .i64 p.q)/\w.cell? ⟨kp,1,none⟩=some (.int .i64 p.n)/\w.cell? ⟨kp,2,none⟩=some (.slice Va p.vars.length vc)/\w.cell? ⟨kp,3,none⟩=some (.slice Ab p.body.length cb)/\w.cell? ⟨kc,0,none⟩=some (.slice ia CI.length ic)/\w.cell? ⟨kc,1,none⟩=some (.int .i64 24)/\w.cell? ⟨kc,2,none⟩=some (.int .i64 M):=
 ⟨h.P.cells.1,h.P.cells.2.1,h.P.cells.2.2.1,h.P.cells.2.2.2,(cell_blk h.C _).trans rfl,(cell_blk h.C _).trans rfl,(cell_blk h.C _).trans rfl⟩
theorem PS.zero {k:Nat}(h:PS w0 kp kc b1 (some k) p Va Ab vc cb ia ic CI M w):w.cell? ⟨k,0,none⟩=some (.int .i64 0)/\w.cell? ⟨k,1,none⟩=some (.slice none 0 0)/\w.cell? ⟨k,2,none⟩=some (.slice none 0 0)/\w.cell? ⟨k,3,none⟩=some (.int .i64 0)/\w.cell? ⟨k,4,none⟩=some (.int .i64 0)/\
  w.frozen? ⟨k,0,none⟩=false/\w.frozen? ⟨k,1,none⟩=false/\w.frozen? ⟨k,2,none⟩=false/\w.frozen? ⟨k,3,none⟩=false/\w.frozen? ⟨k,4,none⟩=false:=
 ⟨(cell_blk (h.z k rfl).2 _).trans rfl,(cell_blk (h.z k rfl).2 _).trans rfl,(cell_blk (h.z k rfl).2 _).trans rfl,(cell_blk (h.z k rfl).2 _).trans rfl,(cell_blk (h.z k rfl).2 _).trans rfl,frozen_blk (h.z k rfl).2 _,frozen_blk (h.z k rfl).2 _,frozen_blk (h.z k rfl).2 _,frozen_blk (h.z k rfl).2 _,frozen_blk (h.z k rfl).2 _⟩
end
end Go.Proofs.YtkplfaionpplaaaGreatDoor
