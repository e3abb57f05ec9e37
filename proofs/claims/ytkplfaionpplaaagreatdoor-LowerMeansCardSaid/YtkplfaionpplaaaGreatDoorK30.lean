/- Part 30: B63. -/
import Derived.Test.YtkplfaionpplaaaGreatDoorK29
set_option linter.unusedVariables false
set_option linter.unusedSimpArgs false
namespace Go.Proofs.YtkplfaionpplaaaGreatDoor
open Go.RowKit Go.Proofs.YtkplfaionpplaaaGreatDoorW.PrintLast
theorem Tryz.infoLeak:(Tryz.prog.info? 103).map (fun i=>(i.zero,i.size,i.bytes))=some (some (.agg #[.int .i64 0,.int .i64 0]),2,16):=by kernel_rfl
structure RunC (w0:World)(C:RC)(R:Al.RRes)(fuel b1:Nat):Prop where
 code:w0.ownsRow b1 97 6 (.slice C.ia C.c.length C.ic) C.c.length (instsV C.c)
 ok:∀ i∈C.c,Al.okI C.c.length i
 len:C.c.length<=1000000
 mem0:0<C.mem
 mem:C.mem<=65536
 fuel:fuel<=2147483648
 wrong:R.wrong= -1
 rc:0<=R.code/\R.code<=2
theorem set5 {w:World}{k:Nat}{t:TypeId}{a0 a1 a2 a3 a4:Value}(h:w.heap[k]?=some (.cells #[a0,a1,a2,a3,a4] t (0,0)))(x0 x1 x2 x3 x4:Value):
  (((((w.setCell ⟨k,0,none⟩ x0).setCell ⟨k,1,none⟩ x1).setCell ⟨k,2,none⟩ x2).setCell ⟨k,3,none⟩ x3).setCell ⟨k,4,none⟩ x4).heap[k]?=some (.cells #[x0,x1,x2,x3,x4] t (0,0)):=by
 have h1:=set_blk h 0 x0
 have h2:=set_blk h1 1 x1
 have h3:=set_blk h2 2 x2
 have h4:=set_blk h3 3 x3
 have h5:=set_blk h4 4 x4
 simpa using h5
theorem below_set5 {B k:Nat}{w W:World}{x0 x1 x2 x3 x4:Value}(hb:Below B w W)(hk:B<=k):Below B w (((((W.setCell ⟨k,0,none⟩ x0).setCell ⟨k,1,none⟩ x1).setCell ⟨k,2,none⟩ x2).setCell ⟨k,3,none⟩ x3).setCell ⟨k,4,none⟩ x4):=below_set (below_set (below_set (below_set (below_set hb hk) hk) hk) hk) hk
theorem own_set5 {w:World}{base k:Nat}{e t:TypeId}{size:Nat}{v:Value}{n:Nat}{xs:List Value}{c:Array Value}{f:Nat×Nat}{x0 x1 x2 x3 x4:Value}(h:w.ownsRow base e size v n xs)(hk:w.heap[k]?=some (.cells c t f))(ht:t≠e):
  (((((w.setCell ⟨k,0,none⟩ x0).setCell ⟨k,1,none⟩ x1).setCell ⟨k,2,none⟩ x2).setCell ⟨k,3,none⟩ x3).setCell ⟨k,4,none⟩ x4).ownsRow base e size v n xs:=
 own_of h fun i hi=>by
  have hne:i≠k:=fun e2=>own_ne_blk h hk ht (by rw [hi,e2])
  rw [set_blk_ne _ _ hne,set_blk_ne _ _ hne,set_blk_ne _ _ hne,set_blk_ne _ _ hne,set_blk_ne _ _ hne]
def InsB (w:World)(kI:Nat)(i:Al.Inst):Prop:=w.heap[kI]?=some (.cells #[.int .i64 i.op,.int .i64 i.d,.int .i64 i.a,.int .i64 i.b,.int .i64 i.c,.int .i64 i.k] 97 (0,0))
theorem InsB.cells {w:World}{kI:Nat}{i:Al.Inst}(h:InsB w kI i):w.cell? ⟨kI,0,none⟩=some (.int .i64 i.op)/\w.cell? ⟨kI,1,none⟩=some (.int .i64 i.d)/\w.cell? ⟨kI,2,none⟩=some (.int .i64 i.a)/\w.cell? ⟨kI,3,none⟩=some (.int .i64 i.b)/\w.cell? ⟨kI,4,none⟩=some (.int .i64 i.c)/\w.cell? ⟨kI,5,none⟩=some (.int .i64 i.k):=
 ⟨(cell_blk h _).trans rfl,(cell_blk h _).trans rfl,(cell_blk h _).trans rfl,(cell_blk h _).trans rfl,(cell_blk h _).trans rfl,(cell_blk h _).trans rfl⟩
section
variable {w0 w w':World} {C:RC} {regs mm:List Int} {leaks:List Al.Leak} {vl:Value} {steps:Int} {kI:Nat} {i:Al.Inst}
theorem RW.ins_ne (h:RW w0 w C regs mm leaks vl steps)(hi:InsB w kI i):kI≠C.kr/\kI≠C.gr/\kI≠C.gm:=
 ⟨fun e=>by subst e;have h1:=h.rb;rw [show w.heap[C.kr]?=_ from hi] at h1;simp at h1,fun e=>by subst e;exact own_ne_blk h.ro hi (by decide) rfl,fun e=>by subst e;exact own_ne_blk h.mo hi (by decide) rfl⟩
theorem RW.ins_leak (h:RW w0 w C regs mm leaks vl steps)(hi:InsB w kI i){v1:Value}{w1:World}(hg:w1=w\/w.grownBy w1 vl.ownBlock):InsB (w1.setCell ⟨C.kr,2,none⟩ v1) kI i:=by
 have h1:InsB w1 kI i:=by
  rcases hg with rfl|hg
  ·exact hi
  ·exact grow_blk hg hi (own_ne_blk h.lo hi (by decide))
 exact (set_blk_ne _ _ (h.ins_ne hi).1).trans h1
end
end Go.Proofs.YtkplfaionpplaaaGreatDoor
