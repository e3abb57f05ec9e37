/- Part 13: B27. -/
import Derived.Test.YtkplfaionpplaaaGreatDoorK12
set_option maxRecDepth 100000
set_option maxHeartbeats 6400000
set_option linter.unusedVariables false
set_option linter.unusedSimpArgs false
namespace Go.Proofs.YtkplfaionpplaaaGreatDoor
open Go.RowKit
def formV (word:Value)(g:Al.Has):Value:= .agg #[word,.bool g.d,.bool g.a,.bool g.b,.bool g.c,.bool g.k,.bool g.body,.bool g.other]
def tableV:Array Value:= #[.string ⟨#[]⟩,.bool false,.bool false,.bool false,.bool false,.bool false,.bool false,.bool false,.string ⟨#[122,101,114,111]⟩,.bool true,.bool false,.bool false,.bool false,.bool false,.bool false,.bool false,.string ⟨#[99,111,112,121]⟩,.bool true,.bool true,.bool false,.bool false,.bool false,.bool false,.bool false,.string ⟨#[97,100,100]⟩,.bool true,.bool true,.bool true,.bool false,.bool false,.bool false,.bool false,.string ⟨#[115,117,98]⟩,.bool true,.bool true,.bool true,.bool false,.bool false,.bool false,.bool false,.string ⟨#[109,117,108]⟩,.bool true,.bool true,.bool true,.bool false,.bool false,.bool false,.bool false,.string ⟨#[115,99,97,108,101]⟩,.bool true,.bool true,.bool false,.bool false,.bool true,.bool false,.bool false,.string ⟨#[99,111,110,118]⟩,.bool true,.bool true,.bool true,.bool false,.bool false,.bool false,.bool false,.string ⟨#[114,111,117,110,100]⟩,.bool true,.bool true,.bool false,.bool false,.bool true,.bool false,.bool false,.string ⟨#[101,120,112,97,110,100]⟩,.bool true,.bool true,.bool false,.bool false,.bool true,.bool false,.bool false,.string ⟨#[112,105,99,107]⟩,.bool true,.bool true,.bool true,.bool true,.bool false,.bool false,.bool false,.string ⟨#[110,111,114,109]⟩,.bool true,.bool true,.bool false,.bool false,.bool true,.bool false,.bool false,.string ⟨#[115,104,111,119]⟩,.bool true,.bool true,.bool false,.bool false,.bool false,.bool false,.bool false,.string ⟨#[100,114,97,119]⟩,.bool true,.bool false,.bool false,.bool false,.bool false,.bool false,.bool false,.string ⟨#[105,102]⟩,.bool false,.bool true,.bool false,.bool false,.bool false,.bool true,.bool true,.string ⟨#[116,105,109,101,115]⟩,.bool false,.bool false,.bool false,.bool false,.bool true,.bool true,.bool false,.string ⟨#[117,110,116,105,108]⟩,.bool false,.bool true,.bool false,.bool false,.bool true,.bool true,.bool false]
def zeroForm:Array Value:= #[.string ⟨#[]⟩,.bool false,.bool false,.bool false,.bool false,.bool false,.bool false,.bool false]
theorem gen_world {Q:World->Prop}(W0:World)(F:World->Prop)(hF:F W0)(h:∀ W,F W->Q W):Q W0:=h W0 hF
theorem below_set {B k j:Nat}{w W:World}{u:Value}(hb:Below B w W)(hk:B<=k):Below B w (W.setCell ⟨k,j,none⟩ u):=
 ⟨hb.os,hb.tape,hb.output,by rw [set_size];exact hb.size,fun i hi=>by rw [set_blk_ne _ _ (by omega)];exact hb.block i hi⟩
theorem set8 {w:World}{k:Nat}{t:TypeId}{a0 a1 a2 a3 a4 a5 a6 a7:Value}(h:w.heap[k]?=some (.cells #[a0,a1,a2,a3,a4,a5,a6,a7] t (0,0)))(x0 x1 x2 x3 x4 x5 x6 x7:Value):
  ((((((((w.setCell ⟨k,0,none⟩ x0).setCell ⟨k,1,none⟩ x1).setCell ⟨k,2,none⟩ x2).setCell ⟨k,3,none⟩ x3).setCell ⟨k,4,none⟩ x4).setCell ⟨k,5,none⟩ x5).setCell ⟨k,6,none⟩ x6).setCell ⟨k,7,none⟩ x7).heap[k]?=some (.cells #[x0,x1,x2,x3,x4,x5,x6,x7] t (0,0)):=by
 have h0:=set_blk h 0 x0
 have h1:=set_blk h0 1 x1
 have h2:=set_blk h1 2 x2
 have h3:=set_blk h2 3 x3
 have h4:=set_blk h3 4 x4
 have h5:=set_blk h4 5 x5
 have h6:=set_blk h5 6 x6
 have h7:=set_blk h6 7 x7
 rw [h7]
 simp
theorem alloc_at (w:World)(o1 o2:Obj):((w.alloc o1).alloc o2).heap[w.heap.size+1]?=some o2:=by
 have:=heap_alloc_new (w.alloc o1) o2
 simpa using this
theorem alloc_two (w:World)(o1 o2:Obj):Below w.heap.size w ((w.alloc o1).alloc o2):=((Below.refl _ _).alloc (Nat.le_refl _) _).alloc (by simp) _
theorem src_of (w:World)(op:Int){g:Al.Has}(hg:Al.hasOf op=some g):Calls Tryz.prog 142 #[.int .i64 op] w fun e w'=>∃ word,e= .returned (.tuple #[formV (.string word) g,.bool true])/\Below w.heap.size w w':=by
 have h:op=1\/op=2\/op=3\/op=4\/op=5\/op=6\/op=7\/op=8\/op=9\/op=10\/op=11\/op=12\/op=13\/op=14\/op=15\/op=16:=by
  refine Decidable.byContradiction fun hn=>?_
  simp only [not_or] at hn
  unfold Al.hasOf at hg
  simp [hn] at hg
 go_enter Tryz.func142,Tryz.ntmps142
 go_upto_region 1 with fail
 go_cut [4] from 5 to 21 (fun v4 wc=>v4= .slice (some ⟨w.heap.size+1,0,none⟩) 17 17/\wc.heap[w.heap.size]?=some (.cells zeroForm 192 (0,0))/\wc.heap[w.heap.size+1]?=some (.cells tableV 192 (0,0))/\Below w.heap.size w wc)
 case first=>
  go_wp2_with fail
  go_meet
  exact⟨rfl,alloc_blk _ (heap_alloc_new w _),alloc_at w _ _,alloc_two w _ _⟩
 case rest=>
  obtain⟨rfl,h0,h1,hb⟩:=hcut
  unfold zeroForm at h0
  have z0:wc.cell? ⟨w.heap.size,0,none⟩=some (.string ⟨#[]⟩):=(cell_blk h0 _).trans rfl
  have y0:=frozen_blk h0 0
  have z1:wc.cell? ⟨w.heap.size,1,none⟩=some (.bool false):=(cell_blk h0 _).trans rfl
  have y1:=frozen_blk h0 1
  have z2:wc.cell? ⟨w.heap.size,2,none⟩=some (.bool false):=(cell_blk h0 _).trans rfl
  have y2:=frozen_blk h0 2
  have z3:wc.cell? ⟨w.heap.size,3,none⟩=some (.bool false):=(cell_blk h0 _).trans rfl
  have y3:=frozen_blk h0 3
  have z4:wc.cell? ⟨w.heap.size,4,none⟩=some (.bool false):=(cell_blk h0 _).trans rfl
  have y4:=frozen_blk h0 4
  have z5:wc.cell? ⟨w.heap.size,5,none⟩=some (.bool false):=(cell_blk h0 _).trans rfl
  have y5:=frozen_blk h0 5
  have z6:wc.cell? ⟨w.heap.size,6,none⟩=some (.bool false):=(cell_blk h0 _).trans rfl
  have y6:=frozen_blk h0 6
  have z7:wc.cell? ⟨w.heap.size,7,none⟩=some (.bool false):=(cell_blk h0 _).trans rfl
  have y7:=frozen_blk h0 7
  rcases h with h|h|h|h|h|h|h|h|h|h|h|h|h|h|h|h<;> subst h<;> cases hg
  ·have x0:wc.cell? ⟨w.heap.size+1,8,none⟩=some (.string ⟨#[122,101,114,111]⟩):=(cell_blk h1 _).trans rfl
   have x1:wc.cell? ⟨w.heap.size+1,9,none⟩=some (.bool true):=(cell_blk h1 _).trans rfl
   have x2:wc.cell? ⟨w.heap.size+1,10,none⟩=some (.bool false):=(cell_blk h1 _).trans rfl
   have x3:wc.cell? ⟨w.heap.size+1,11,none⟩=some (.bool false):=(cell_blk h1 _).trans rfl
   have x4:wc.cell? ⟨w.heap.size+1,12,none⟩=some (.bool false):=(cell_blk h1 _).trans rfl
   have x5:wc.cell? ⟨w.heap.size+1,13,none⟩=some (.bool false):=(cell_blk h1 _).trans rfl
   have x6:wc.cell? ⟨w.heap.size+1,14,none⟩=some (.bool false):=(cell_blk h1 _).trans rfl
   have x7:wc.cell? ⟨w.heap.size+1,15,none⟩=some (.bool false):=(cell_blk h1 _).trans rfl
   clear h1
   go_wp2_with fail
   refine gen_world (Q:=fun W=>bodyPost _ _ _ _ _ W) _ (fun W=>W.heap[w.heap.size]?=some (.cells #[.string ⟨#[122,101,114,111]⟩,.bool true,.bool false,.bool false,.bool false,.bool false,.bool false,.bool false] 192 (0,0))/\Below w.heap.size w W) ⟨set8 h0 _ _ _ _ _ _ _ _,below_set (below_set (below_set (below_set (below_set (below_set (below_set (below_set hb (Nat.le_refl _)) (Nat.le_refl _)) (Nat.le_refl _)) (Nat.le_refl _)) (Nat.le_refl _)) (Nat.le_refl _)) (Nat.le_refl _)) (Nat.le_refl _)⟩ ?_
   rintro W ⟨hq,hb2⟩
   have q0:W.cell? ⟨w.heap.size,0,none⟩=some (.string ⟨#[122,101,114,111]⟩):=(cell_blk hq _).trans rfl
   have q1:W.cell? ⟨w.heap.size,1,none⟩=some (.bool true):=(cell_blk hq _).trans rfl
   have q2:W.cell? ⟨w.heap.size,2,none⟩=some (.bool false):=(cell_blk hq _).trans rfl
   have q3:W.cell? ⟨w.heap.size,3,none⟩=some (.bool false):=(cell_blk hq _).trans rfl
   have q4:W.cell? ⟨w.heap.size,4,none⟩=some (.bool false):=(cell_blk hq _).trans rfl
   have q5:W.cell? ⟨w.heap.size,5,none⟩=some (.bool false):=(cell_blk hq _).trans rfl
   have q6:W.cell? ⟨w.heap.size,6,none⟩=some (.bool false):=(cell_blk hq _).trans rfl
   have q7:W.cell? ⟨w.heap.size,7,none⟩=some (.bool false):=(cell_blk hq _).trans rfl
   exact bodyPost_ret (v:= .tuple #[.agg #[.string ⟨#[122,101,114,111]⟩,.bool true,.bool false,.bool false,.bool false,.bool false,.bool false,.bool false],.bool true]) (by simp [results,Tryz.results142,go_sem,q0,q1,q2,q3,q4,q5,q6,q7]) rfl ⟨_,rfl,hb2⟩
  ·have x0:wc.cell? ⟨w.heap.size+1,16,none⟩=some (.string ⟨#[99,111,112,121]⟩):=(cell_blk h1 _).trans rfl
   have x1:wc.cell? ⟨w.heap.size+1,17,none⟩=some (.bool true):=(cell_blk h1 _).trans rfl
   have x2:wc.cell? ⟨w.heap.size+1,18,none⟩=some (.bool true):=(cell_blk h1 _).trans rfl
   have x3:wc.cell? ⟨w.heap.size+1,19,none⟩=some (.bool false):=(cell_blk h1 _).trans rfl
   have x4:wc.cell? ⟨w.heap.size+1,20,none⟩=some (.bool false):=(cell_blk h1 _).trans rfl
   have x5:wc.cell? ⟨w.heap.size+1,21,none⟩=some (.bool false):=(cell_blk h1 _).trans rfl
   have x6:wc.cell? ⟨w.heap.size+1,22,none⟩=some (.bool false):=(cell_blk h1 _).trans rfl
   have x7:wc.cell? ⟨w.heap.size+1,23,none⟩=some (.bool false):=(cell_blk h1 _).trans rfl
   clear h1
   go_wp2_with fail
   refine gen_world (Q:=fun W=>bodyPost _ _ _ _ _ W) _ (fun W=>W.heap[w.heap.size]?=some (.cells #[.string ⟨#[99,111,112,121]⟩,.bool true,.bool true,.bool false,.bool false,.bool false,.bool false,.bool false] 192 (0,0))/\Below w.heap.size w W) ⟨set8 h0 _ _ _ _ _ _ _ _,below_set (below_set (below_set (below_set (below_set (below_set (below_set (below_set hb (Nat.le_refl _)) (Nat.le_refl _)) (Nat.le_refl _)) (Nat.le_refl _)) (Nat.le_refl _)) (Nat.le_refl _)) (Nat.le_refl _)) (Nat.le_refl _)⟩ ?_
   rintro W ⟨hq,hb2⟩
   have q0:W.cell? ⟨w.heap.size,0,none⟩=some (.string ⟨#[99,111,112,121]⟩):=(cell_blk hq _).trans rfl
   have q1:W.cell? ⟨w.heap.size,1,none⟩=some (.bool true):=(cell_blk hq _).trans rfl
   have q2:W.cell? ⟨w.heap.size,2,none⟩=some (.bool true):=(cell_blk hq _).trans rfl
   have q3:W.cell? ⟨w.heap.size,3,none⟩=some (.bool false):=(cell_blk hq _).trans rfl
   have q4:W.cell? ⟨w.heap.size,4,none⟩=some (.bool false):=(cell_blk hq _).trans rfl
   have q5:W.cell? ⟨w.heap.size,5,none⟩=some (.bool false):=(cell_blk hq _).trans rfl
   have q6:W.cell? ⟨w.heap.size,6,none⟩=some (.bool false):=(cell_blk hq _).trans rfl
   have q7:W.cell? ⟨w.heap.size,7,none⟩=some (.bool false):=(cell_blk hq _).trans rfl
   exact bodyPost_ret (v:= .tuple #[.agg #[.string ⟨#[99,111,112,121]⟩,.bool true,.bool true,.bool false,.bool false,.bool false,.bool false,.bool false],.bool true]) (by simp [results,Tryz.results142,go_sem,q0,q1,q2,q3,q4,q5,q6,q7]) rfl ⟨_,rfl,hb2⟩
  ·have x0:wc.cell? ⟨w.heap.size+1,24,none⟩=some (.string ⟨#[97,100,100]⟩):=(cell_blk h1 _).trans rfl
   have x1:wc.cell? ⟨w.heap.size+1,25,none⟩=some (.bool true):=(cell_blk h1 _).trans rfl
   have x2:wc.cell? ⟨w.heap.size+1,26,none⟩=some (.bool true):=(cell_blk h1 _).trans rfl
   have x3:wc.cell? ⟨w.heap.size+1,27,none⟩=some (.bool true):=(cell_blk h1 _).trans rfl
   have x4:wc.cell? ⟨w.heap.size+1,28,none⟩=some (.bool false):=(cell_blk h1 _).trans rfl
   have x5:wc.cell? ⟨w.heap.size+1,29,none⟩=some (.bool false):=(cell_blk h1 _).trans rfl
   have x6:wc.cell? ⟨w.heap.size+1,30,none⟩=some (.bool false):=(cell_blk h1 _).trans rfl
   have x7:wc.cell? ⟨w.heap.size+1,31,none⟩=some (.bool false):=(cell_blk h1 _).trans rfl
   clear h1
   go_wp2_with fail
   refine gen_world (Q:=fun W=>bodyPost _ _ _ _ _ W) _ (fun W=>W.heap[w.heap.size]?=some (.cells #[.string ⟨#[97,100,100]⟩,.bool true,.bool true,.bool true,.bool false,.bool false,.bool false,.bool false] 192 (0,0))/\Below w.heap.size w W) ⟨set8 h0 _ _ _ _ _ _ _ _,below_set (below_set (below_set (below_set (below_set (below_set (below_set (below_set hb (Nat.le_refl _)) (Nat.le_refl _)) (Nat.le_refl _)) (Nat.le_refl _)) (Nat.le_refl _)) (Nat.le_refl _)) (Nat.le_refl _)) (Nat.le_refl _)⟩ ?_
   rintro W ⟨hq,hb2⟩
   have q0:W.cell? ⟨w.heap.size,0,none⟩=some (.string ⟨#[97,100,100]⟩):=(cell_blk hq _).trans rfl
   have q1:W.cell? ⟨w.heap.size,1,none⟩=some (.bool true):=(cell_blk hq _).trans rfl
   have q2:W.cell? ⟨w.heap.size,2,none⟩=some (.bool true):=(cell_blk hq _).trans rfl
   have q3:W.cell? ⟨w.heap.size,3,none⟩=some (.bool true):=(cell_blk hq _).trans rfl
   have q4:W.cell? ⟨w.heap.size,4,none⟩=some (.bool false):=(cell_blk hq _).trans rfl
   have q5:W.cell? ⟨w.heap.size,5,none⟩=some (.bool false):=(cell_blk hq _).trans rfl
   have q6:W.cell? ⟨w.heap.size,6,none⟩=some (.bool false):=(cell_blk hq _).trans rfl
   have q7:W.cell? ⟨w.heap.size,7,none⟩=some (.bool false):=(cell_blk hq _).trans rfl
   exact bodyPost_ret (v:= .tuple #[.agg #[.string ⟨#[97,100,100]⟩,.bool true,.bool true,.bool true,.bool false,.bool false,.bool false,.bool false],.bool true]) (by simp [results,Tryz.results142,go_sem,q0,q1,q2,q3,q4,q5,q6,q7]) rfl ⟨_,rfl,hb2⟩
  ·have x0:wc.cell? ⟨w.heap.size+1,32,none⟩=some (.string ⟨#[115,117,98]⟩):=(cell_blk h1 _).trans rfl
   have x1:wc.cell? ⟨w.heap.size+1,33,none⟩=some (.bool true):=(cell_blk h1 _).trans rfl
   have x2:wc.cell? ⟨w.heap.size+1,34,none⟩=some (.bool true):=(cell_blk h1 _).trans rfl
   have x3:wc.cell? ⟨w.heap.size+1,35,none⟩=some (.bool true):=(cell_blk h1 _).trans rfl
   have x4:wc.cell? ⟨w.heap.size+1,36,none⟩=some (.bool false):=(cell_blk h1 _).trans rfl
   have x5:wc.cell? ⟨w.heap.size+1,37,none⟩=some (.bool false):=(cell_blk h1 _).trans rfl
   have x6:wc.cell? ⟨w.heap.size+1,38,none⟩=some (.bool false):=(cell_blk h1 _).trans rfl
   have x7:wc.cell? ⟨w.heap.size+1,39,none⟩=some (.bool false):=(cell_blk h1 _).trans rfl
   clear h1
   go_wp2_with fail
   refine gen_world (Q:=fun W=>bodyPost _ _ _ _ _ W) _ (fun W=>W.heap[w.heap.size]?=some (.cells #[.string ⟨#[115,117,98]⟩,.bool true,.bool true,.bool true,.bool false,.bool false,.bool false,.bool false] 192 (0,0))/\Below w.heap.size w W) ⟨set8 h0 _ _ _ _ _ _ _ _,below_set (below_set (below_set (below_set (below_set (below_set (below_set (below_set hb (Nat.le_refl _)) (Nat.le_refl _)) (Nat.le_refl _)) (Nat.le_refl _)) (Nat.le_refl _)) (Nat.le_refl _)) (Nat.le_refl _)) (Nat.le_refl _)⟩ ?_
   rintro W ⟨hq,hb2⟩
   have q0:W.cell? ⟨w.heap.size,0,none⟩=some (.string ⟨#[115,117,98]⟩):=(cell_blk hq _).trans rfl
   have q1:W.cell? ⟨w.heap.size,1,none⟩=some (.bool true):=(cell_blk hq _).trans rfl
   have q2:W.cell? ⟨w.heap.size,2,none⟩=some (.bool true):=(cell_blk hq _).trans rfl
   have q3:W.cell? ⟨w.heap.size,3,none⟩=some (.bool true):=(cell_blk hq _).trans rfl
   have q4:W.cell? ⟨w.heap.size,4,none⟩=some (.bool false):=(cell_blk hq _).trans rfl
   have q5:W.cell? ⟨w.heap.size,5,none⟩=some (.bool false):=(cell_blk hq _).trans rfl
   have q6:W.cell? ⟨w.heap.size,6,none⟩=some (.bool false):=(cell_blk hq _).trans rfl
   have q7:W.cell? ⟨w.heap.size,7,none⟩=some (.bool false):=(cell_blk hq _).trans rfl
   exact bodyPost_ret (v:= .tuple #[.agg #[.string ⟨#[115,117,98]⟩,.bool true,.bool true,.bool true,.bool false,.bool false,.bool false,.bool false],.bool true]) (by simp [results,Tryz.results142,go_sem,q0,q1,q2,q3,q4,q5,q6,q7]) rfl ⟨_,rfl,hb2⟩
  ·have x0:wc.cell? ⟨w.heap.size+1,40,none⟩=some (.string ⟨#[109,117,108]⟩):=(cell_blk h1 _).trans rfl
   have x1:wc.cell? ⟨w.heap.size+1,41,none⟩=some (.bool true):=(cell_blk h1 _).trans rfl
   have x2:wc.cell? ⟨w.heap.size+1,42,none⟩=some (.bool true):=(cell_blk h1 _).trans rfl
   have x3:wc.cell? ⟨w.heap.size+1,43,none⟩=some (.bool true):=(cell_blk h1 _).trans rfl
   have x4:wc.cell? ⟨w.heap.size+1,44,none⟩=some (.bool false):=(cell_blk h1 _).trans rfl
   have x5:wc.cell? ⟨w.heap.size+1,45,none⟩=some (.bool false):=(cell_blk h1 _).trans rfl
   have x6:wc.cell? ⟨w.heap.size+1,46,none⟩=some (.bool false):=(cell_blk h1 _).trans rfl
   have x7:wc.cell? ⟨w.heap.size+1,47,none⟩=some (.bool false):=(cell_blk h1 _).trans rfl
   clear h1
   go_wp2_with fail
   refine gen_world (Q:=fun W=>bodyPost _ _ _ _ _ W) _ (fun W=>W.heap[w.heap.size]?=some (.cells #[.string ⟨#[109,117,108]⟩,.bool true,.bool true,.bool true,.bool false,.bool false,.bool false,.bool false] 192 (0,0))/\Below w.heap.size w W) ⟨set8 h0 _ _ _ _ _ _ _ _,below_set (below_set (below_set (below_set (below_set (below_set (below_set (below_set hb (Nat.le_refl _)) (Nat.le_refl _)) (Nat.le_refl _)) (Nat.le_refl _)) (Nat.le_refl _)) (Nat.le_refl _)) (Nat.le_refl _)) (Nat.le_refl _)⟩ ?_
   rintro W ⟨hq,hb2⟩
   have q0:W.cell? ⟨w.heap.size,0,none⟩=some (.string ⟨#[109,117,108]⟩):=(cell_blk hq _).trans rfl
   have q1:W.cell? ⟨w.heap.size,1,none⟩=some (.bool true):=(cell_blk hq _).trans rfl
   have q2:W.cell? ⟨w.heap.size,2,none⟩=some (.bool true):=(cell_blk hq _).trans rfl
   have q3:W.cell? ⟨w.heap.size,3,none⟩=some (.bool true):=(cell_blk hq _).trans rfl
   have q4:W.cell? ⟨w.heap.size,4,none⟩=some (.bool false):=(cell_blk hq _).trans rfl
   have q5:W.cell? ⟨w.heap.size,5,none⟩=some (.bool false):=(cell_blk hq _).trans rfl
   have q6:W.cell? ⟨w.heap.size,6,none⟩=some (.bool false):=(cell_blk hq _).trans rfl
   have q7:W.cell? ⟨w.heap.size,7,none⟩=some (.bool false):=(cell_blk hq _).trans rfl
   exact bodyPost_ret (v:= .tuple #[.agg #[.string ⟨#[109,117,108]⟩,.bool true,.bool true,.bool true,.bool false,.bool false,.bool false,.bool false],.bool true]) (by simp [results,Tryz.results142,go_sem,q0,q1,q2,q3,q4,q5,q6,q7]) rfl ⟨_,rfl,hb2⟩
  ·have x0:wc.cell? ⟨w.heap.size+1,48,none⟩=some (.string ⟨#[115,99,97,108,101]⟩):=(cell_blk h1 _).trans rfl
   have x1:wc.cell? ⟨w.heap.size+1,49,none⟩=some (.bool true):=(cell_blk h1 _).trans rfl
   have x2:wc.cell? ⟨w.heap.size+1,50,none⟩=some (.bool true):=(cell_blk h1 _).trans rfl
   have x3:wc.cell? ⟨w.heap.size+1,51,none⟩=some (.bool false):=(cell_blk h1 _).trans rfl
   have x4:wc.cell? ⟨w.heap.size+1,52,none⟩=some (.bool false):=(cell_blk h1 _).trans rfl
   have x5:wc.cell? ⟨w.heap.size+1,53,none⟩=some (.bool true):=(cell_blk h1 _).trans rfl
   have x6:wc.cell? ⟨w.heap.size+1,54,none⟩=some (.bool false):=(cell_blk h1 _).trans rfl
   have x7:wc.cell? ⟨w.heap.size+1,55,none⟩=some (.bool false):=(cell_blk h1 _).trans rfl
   clear h1
   go_wp2_with fail
   refine gen_world (Q:=fun W=>bodyPost _ _ _ _ _ W) _ (fun W=>W.heap[w.heap.size]?=some (.cells #[.string ⟨#[115,99,97,108,101]⟩,.bool true,.bool true,.bool false,.bool false,.bool true,.bool false,.bool false] 192 (0,0))/\Below w.heap.size w W) ⟨set8 h0 _ _ _ _ _ _ _ _,below_set (below_set (below_set (below_set (below_set (below_set (below_set (below_set hb (Nat.le_refl _)) (Nat.le_refl _)) (Nat.le_refl _)) (Nat.le_refl _)) (Nat.le_refl _)) (Nat.le_refl _)) (Nat.le_refl _)) (Nat.le_refl _)⟩ ?_
   rintro W ⟨hq,hb2⟩
   have q0:W.cell? ⟨w.heap.size,0,none⟩=some (.string ⟨#[115,99,97,108,101]⟩):=(cell_blk hq _).trans rfl
   have q1:W.cell? ⟨w.heap.size,1,none⟩=some (.bool true):=(cell_blk hq _).trans rfl
   have q2:W.cell? ⟨w.heap.size,2,none⟩=some (.bool true):=(cell_blk hq _).trans rfl
   have q3:W.cell? ⟨w.heap.size,3,none⟩=some (.bool false):=(cell_blk hq _).trans rfl
   have q4:W.cell? ⟨w.heap.size,4,none⟩=some (.bool false):=(cell_blk hq _).trans rfl
   have q5:W.cell? ⟨w.heap.size,5,none⟩=some (.bool true):=(cell_blk hq _).trans rfl
   have q6:W.cell? ⟨w.heap.size,6,none⟩=some (.bool false):=(cell_blk hq _).trans rfl
   have q7:W.cell? ⟨w.heap.size,7,none⟩=some (.bool false):=(cell_blk hq _).trans rfl
   exact bodyPost_ret (v:= .tuple #[.agg #[.string ⟨#[115,99,97,108,101]⟩,.bool true,.bool true,.bool false,.bool false,.bool true,.bool false,.bool false],.bool true]) (by simp [results,Tryz.results142,go_sem,q0,q1,q2,q3,q4,q5,q6,q7]) rfl ⟨_,rfl,hb2⟩
  ·have x0:wc.cell? ⟨w.heap.size+1,56,none⟩=some (.string ⟨#[99,111,110,118]⟩):=(cell_blk h1 _).trans rfl
   have x1:wc.cell? ⟨w.heap.size+1,57,none⟩=some (.bool true):=(cell_blk h1 _).trans rfl
   have x2:wc.cell? ⟨w.heap.size+1,58,none⟩=some (.bool true):=(cell_blk h1 _).trans rfl
   have x3:wc.cell? ⟨w.heap.size+1,59,none⟩=some (.bool true):=(cell_blk h1 _).trans rfl
   have x4:wc.cell? ⟨w.heap.size+1,60,none⟩=some (.bool false):=(cell_blk h1 _).trans rfl
   have x5:wc.cell? ⟨w.heap.size+1,61,none⟩=some (.bool false):=(cell_blk h1 _).trans rfl
   have x6:wc.cell? ⟨w.heap.size+1,62,none⟩=some (.bool false):=(cell_blk h1 _).trans rfl
   have x7:wc.cell? ⟨w.heap.size+1,63,none⟩=some (.bool false):=(cell_blk h1 _).trans rfl
   clear h1
   go_wp2_with fail
   refine gen_world (Q:=fun W=>bodyPost _ _ _ _ _ W) _ (fun W=>W.heap[w.heap.size]?=some (.cells #[.string ⟨#[99,111,110,118]⟩,.bool true,.bool true,.bool true,.bool false,.bool false,.bool false,.bool false] 192 (0,0))/\Below w.heap.size w W) ⟨set8 h0 _ _ _ _ _ _ _ _,below_set (below_set (below_set (below_set (below_set (below_set (below_set (below_set hb (Nat.le_refl _)) (Nat.le_refl _)) (Nat.le_refl _)) (Nat.le_refl _)) (Nat.le_refl _)) (Nat.le_refl _)) (Nat.le_refl _)) (Nat.le_refl _)⟩ ?_
   rintro W ⟨hq,hb2⟩
   have q0:W.cell? ⟨w.heap.size,0,none⟩=some (.string ⟨#[99,111,110,118]⟩):=(cell_blk hq _).trans rfl
   have q1:W.cell? ⟨w.heap.size,1,none⟩=some (.bool true):=(cell_blk hq _).trans rfl
   have q2:W.cell? ⟨w.heap.size,2,none⟩=some (.bool true):=(cell_blk hq _).trans rfl
   have q3:W.cell? ⟨w.heap.size,3,none⟩=some (.bool true):=(cell_blk hq _).trans rfl
   have q4:W.cell? ⟨w.heap.size,4,none⟩=some (.bool false):=(cell_blk hq _).trans rfl
   have q5:W.cell? ⟨w.heap.size,5,none⟩=some (.bool false):=(cell_blk hq _).trans rfl
   have q6:W.cell? ⟨w.heap.size,6,none⟩=some (.bool false):=(cell_blk hq _).trans rfl
   have q7:W.cell? ⟨w.heap.size,7,none⟩=some (.bool false):=(cell_blk hq _).trans rfl
   exact bodyPost_ret (v:= .tuple #[.agg #[.string ⟨#[99,111,110,118]⟩,.bool true,.bool true,.bool true,.bool false,.bool false,.bool false,.bool false],.bool true]) (by simp [results,Tryz.results142,go_sem,q0,q1,q2,q3,q4,q5,q6,q7]) rfl ⟨_,rfl,hb2⟩
  ·have x0:wc.cell? ⟨w.heap.size+1,64,none⟩=some (.string ⟨#[114,111,117,110,100]⟩):=(cell_blk h1 _).trans rfl
   have x1:wc.cell? ⟨w.heap.size+1,65,none⟩=some (.bool true):=(cell_blk h1 _).trans rfl
   have x2:wc.cell? ⟨w.heap.size+1,66,none⟩=some (.bool true):=(cell_blk h1 _).trans rfl
   have x3:wc.cell? ⟨w.heap.size+1,67,none⟩=some (.bool false):=(cell_blk h1 _).trans rfl
   have x4:wc.cell? ⟨w.heap.size+1,68,none⟩=some (.bool false):=(cell_blk h1 _).trans rfl
   have x5:wc.cell? ⟨w.heap.size+1,69,none⟩=some (.bool true):=(cell_blk h1 _).trans rfl
   have x6:wc.cell? ⟨w.heap.size+1,70,none⟩=some (.bool false):=(cell_blk h1 _).trans rfl
   have x7:wc.cell? ⟨w.heap.size+1,71,none⟩=some (.bool false):=(cell_blk h1 _).trans rfl
   clear h1
   go_wp2_with fail
   refine gen_world (Q:=fun W=>bodyPost _ _ _ _ _ W) _ (fun W=>W.heap[w.heap.size]?=some (.cells #[.string ⟨#[114,111,117,110,100]⟩,.bool true,.bool true,.bool false,.bool false,.bool true,.bool false,.bool false] 192 (0,0))/\Below w.heap.size w W) ⟨set8 h0 _ _ _ _ _ _ _ _,below_set (below_set (below_set (below_set (below_set (below_set (below_set (below_set hb (Nat.le_refl _)) (Nat.le_refl _)) (Nat.le_refl _)) (Nat.le_refl _)) (Nat.le_refl _)) (Nat.le_refl _)) (Nat.le_refl _)) (Nat.le_refl _)⟩ ?_
   rintro W ⟨hq,hb2⟩
   have q0:W.cell? ⟨w.heap.size,0,none⟩=some (.string ⟨#[114,111,117,110,100]⟩):=(cell_blk hq _).trans rfl
   have q1:W.cell? ⟨w.heap.size,1,none⟩=some (.bool true):=(cell_blk hq _).trans rfl
   have q2:W.cell? ⟨w.heap.size,2,none⟩=some (.bool true):=(cell_blk hq _).trans rfl
   have q3:W.cell? ⟨w.heap.size,3,none⟩=some (.bool false):=(cell_blk hq _).trans rfl
   have q4:W.cell? ⟨w.heap.size,4,none⟩=some (.bool false):=(cell_blk hq _).trans rfl
   have q5:W.cell? ⟨w.heap.size,5,none⟩=some (.bool true):=(cell_blk hq _).trans rfl
   have q6:W.cell? ⟨w.heap.size,6,none⟩=some (.bool false):=(cell_blk hq _).trans rfl
   have q7:W.cell? ⟨w.heap.size,7,none⟩=some (.bool false):=(cell_blk hq _).trans rfl
   exact bodyPost_ret (v:= .tuple #[.agg #[.string ⟨#[114,111,117,110,100]⟩,.bool true,.bool true,.bool false,.bool false,.bool true,.bool false,.bool false],.bool true]) (by simp [results,Tryz.results142,go_sem,q0,q1,q2,q3,q4,q5,q6,q7]) rfl ⟨_,rfl,hb2⟩
  ·have x0:wc.cell? ⟨w.heap.size+1,72,none⟩=some (.string ⟨#[101,120,112,97,110,100]⟩):=(cell_blk h1 _).trans rfl
   have x1:wc.cell? ⟨w.heap.size+1,73,none⟩=some (.bool true):=(cell_blk h1 _).trans rfl
   have x2:wc.cell? ⟨w.heap.size+1,74,none⟩=some (.bool true):=(cell_blk h1 _).trans rfl
   have x3:wc.cell? ⟨w.heap.size+1,75,none⟩=some (.bool false):=(cell_blk h1 _).trans rfl
   have x4:wc.cell? ⟨w.heap.size+1,76,none⟩=some (.bool false):=(cell_blk h1 _).trans rfl
   have x5:wc.cell? ⟨w.heap.size+1,77,none⟩=some (.bool true):=(cell_blk h1 _).trans rfl
   have x6:wc.cell? ⟨w.heap.size+1,78,none⟩=some (.bool false):=(cell_blk h1 _).trans rfl
   have x7:wc.cell? ⟨w.heap.size+1,79,none⟩=some (.bool false):=(cell_blk h1 _).trans rfl
   clear h1
   go_wp2_with fail
   refine gen_world (Q:=fun W=>bodyPost _ _ _ _ _ W) _ (fun W=>W.heap[w.heap.size]?=some (.cells #[.string ⟨#[101,120,112,97,110,100]⟩,.bool true,.bool true,.bool false,.bool false,.bool true,.bool false,.bool false] 192 (0,0))/\Below w.heap.size w W) ⟨set8 h0 _ _ _ _ _ _ _ _,below_set (below_set (below_set (below_set (below_set (below_set (below_set (below_set hb (Nat.le_refl _)) (Nat.le_refl _)) (Nat.le_refl _)) (Nat.le_refl _)) (Nat.le_refl _)) (Nat.le_refl _)) (Nat.le_refl _)) (Nat.le_refl _)⟩ ?_
   rintro W ⟨hq,hb2⟩
   have q0:W.cell? ⟨w.heap.size,0,none⟩=some (.string ⟨#[101,120,112,97,110,100]⟩):=(cell_blk hq _).trans rfl
   have q1:W.cell? ⟨w.heap.size,1,none⟩=some (.bool true):=(cell_blk hq _).trans rfl
   have q2:W.cell? ⟨w.heap.size,2,none⟩=some (.bool true):=(cell_blk hq _).trans rfl
   have q3:W.cell? ⟨w.heap.size,3,none⟩=some (.bool false):=(cell_blk hq _).trans rfl
   have q4:W.cell? ⟨w.heap.size,4,none⟩=some (.bool false):=(cell_blk hq _).trans rfl
   have q5:W.cell? ⟨w.heap.size,5,none⟩=some (.bool true):=(cell_blk hq _).trans rfl
   have q6:W.cell? ⟨w.heap.size,6,none⟩=some (.bool false):=(cell_blk hq _).trans rfl
   have q7:W.cell? ⟨w.heap.size,7,none⟩=some (.bool false):=(cell_blk hq _).trans rfl
   exact bodyPost_ret (v:= .tuple #[.agg #[.string ⟨#[101,120,112,97,110,100]⟩,.bool true,.bool true,.bool false,.bool false,.bool true,.bool false,.bool false],.bool true]) (by simp [results,Tryz.results142,go_sem,q0,q1,q2,q3,q4,q5,q6,q7]) rfl ⟨_,rfl,hb2⟩
  ·have x0:wc.cell? ⟨w.heap.size+1,80,none⟩=some (.string ⟨#[112,105,99,107]⟩):=(cell_blk h1 _).trans rfl
   have x1:wc.cell? ⟨w.heap.size+1,81,none⟩=some (.bool true):=(cell_blk h1 _).trans rfl
   have x2:wc.cell? ⟨w.heap.size+1,82,none⟩=some (.bool true):=(cell_blk h1 _).trans rfl
   have x3:wc.cell? ⟨w.heap.size+1,83,none⟩=some (.bool true):=(cell_blk h1 _).trans rfl
   have x4:wc.cell? ⟨w.heap.size+1,84,none⟩=some (.bool true):=(cell_blk h1 _).trans rfl
   have x5:wc.cell? ⟨w.heap.size+1,85,none⟩=some (.bool false):=(cell_blk h1 _).trans rfl
   have x6:wc.cell? ⟨w.heap.size+1,86,none⟩=some (.bool false):=(cell_blk h1 _).trans rfl
   have x7:wc.cell? ⟨w.heap.size+1,87,none⟩=some (.bool false):=(cell_blk h1 _).trans rfl
   clear h1
   go_wp2_with fail
   refine gen_world (Q:=fun W=>bodyPost _ _ _ _ _ W) _ (fun W=>W.heap[w.heap.size]?=some (.cells #[.string ⟨#[112,105,99,107]⟩,.bool true,.bool true,.bool true,.bool true,.bool false,.bool false,.bool false] 192 (0,0))/\Below w.heap.size w W) ⟨set8 h0 _ _ _ _ _ _ _ _,below_set (below_set (below_set (below_set (below_set (below_set (below_set (below_set hb (Nat.le_refl _)) (Nat.le_refl _)) (Nat.le_refl _)) (Nat.le_refl _)) (Nat.le_refl _)) (Nat.le_refl _)) (Nat.le_refl _)) (Nat.le_refl _)⟩ ?_
   rintro W ⟨hq,hb2⟩
   have q0:W.cell? ⟨w.heap.size,0,none⟩=some (.string ⟨#[112,105,99,107]⟩):=(cell_blk hq _).trans rfl
   have q1:W.cell? ⟨w.heap.size,1,none⟩=some (.bool true):=(cell_blk hq _).trans rfl
   have q2:W.cell? ⟨w.heap.size,2,none⟩=some (.bool true):=(cell_blk hq _).trans rfl
   have q3:W.cell? ⟨w.heap.size,3,none⟩=some (.bool true):=(cell_blk hq _).trans rfl
   have q4:W.cell? ⟨w.heap.size,4,none⟩=some (.bool true):=(cell_blk hq _).trans rfl
   have q5:W.cell? ⟨w.heap.size,5,none⟩=some (.bool false):=(cell_blk hq _).trans rfl
   have q6:W.cell? ⟨w.heap.size,6,none⟩=some (.bool false):=(cell_blk hq _).trans rfl
   have q7:W.cell? ⟨w.heap.size,7,none⟩=some (.bool false):=(cell_blk hq _).trans rfl
   exact bodyPost_ret (v:= .tuple #[.agg #[.string ⟨#[112,105,99,107]⟩,.bool true,.bool true,.bool true,.bool true,.bool false,.bool false,.bool false],.bool true]) (by simp [results,Tryz.results142,go_sem,q0,q1,q2,q3,q4,q5,q6,q7]) rfl ⟨_,rfl,hb2⟩
  ·have x0:wc.cell? ⟨w.heap.size+1,88,none⟩=some (.string ⟨#[110,111,114,109]⟩):=(cell_blk h1 _).trans rfl
   have x1:wc.cell? ⟨w.heap.size+1,89,none⟩=some (.bool true):=(cell_blk h1 _).trans rfl
   have x2:wc.cell? ⟨w.heap.size+1,90,none⟩=some (.bool true):=(cell_blk h1 _).trans rfl
   have x3:wc.cell? ⟨w.heap.size+1,91,none⟩=some (.bool false):=(cell_blk h1 _).trans rfl
   have x4:wc.cell? ⟨w.heap.size+1,92,none⟩=some (.bool false):=(cell_blk h1 _).trans rfl
   have x5:wc.cell? ⟨w.heap.size+1,93,none⟩=some (.bool true):=(cell_blk h1 _).trans rfl
   have x6:wc.cell? ⟨w.heap.size+1,94,none⟩=some (.bool false):=(cell_blk h1 _).trans rfl
   have x7:wc.cell? ⟨w.heap.size+1,95,none⟩=some (.bool false):=(cell_blk h1 _).trans rfl
   clear h1
   go_wp2_with fail
   refine gen_world (Q:=fun W=>bodyPost _ _ _ _ _ W) _ (fun W=>W.heap[w.heap.size]?=some (.cells #[.string ⟨#[110,111,114,109]⟩,.bool true,.bool true,.bool false,.bool false,.bool true,.bool false,.bool false] 192 (0,0))/\Below w.heap.size w W) ⟨set8 h0 _ _ _ _ _ _ _ _,below_set (below_set (below_set (below_set (below_set (below_set (below_set (below_set hb (Nat.le_refl _)) (Nat.le_refl _)) (Nat.le_refl _)) (Nat.le_refl _)) (Nat.le_refl _)) (Nat.le_refl _)) (Nat.le_refl _)) (Nat.le_refl _)⟩ ?_
   rintro W ⟨hq,hb2⟩
   have q0:W.cell? ⟨w.heap.size,0,none⟩=some (.string ⟨#[110,111,114,109]⟩):=(cell_blk hq _).trans rfl
   have q1:W.cell? ⟨w.heap.size,1,none⟩=some (.bool true):=(cell_blk hq _).trans rfl
   have q2:W.cell? ⟨w.heap.size,2,none⟩=some (.bool true):=(cell_blk hq _).trans rfl
   have q3:W.cell? ⟨w.heap.size,3,none⟩=some (.bool false):=(cell_blk hq _).trans rfl
   have q4:W.cell? ⟨w.heap.size,4,none⟩=some (.bool false):=(cell_blk hq _).trans rfl
   have q5:W.cell? ⟨w.heap.size,5,none⟩=some (.bool true):=(cell_blk hq _).trans rfl
   have q6:W.cell? ⟨w.heap.size,6,none⟩=some (.bool false):=(cell_blk hq _).trans rfl
   have q7:W.cell? ⟨w.heap.size,7,none⟩=some (.bool false):=(cell_blk hq _).trans rfl
   exact bodyPost_ret (v:= .tuple #[.agg #[.string ⟨#[110,111,114,109]⟩,.bool true,.bool true,.bool false,.bool false,.bool true,.bool false,.bool false],.bool true]) (by simp [results,Tryz.results142,go_sem,q0,q1,q2,q3,q4,q5,q6,q7]) rfl ⟨_,rfl,hb2⟩
  ·have x0:wc.cell? ⟨w.heap.size+1,96,none⟩=some (.string ⟨#[115,104,111,119]⟩):=(cell_blk h1 _).trans rfl
   have x1:wc.cell? ⟨w.heap.size+1,97,none⟩=some (.bool true):=(cell_blk h1 _).trans rfl
   have x2:wc.cell? ⟨w.heap.size+1,98,none⟩=some (.bool true):=(cell_blk h1 _).trans rfl
   have x3:wc.cell? ⟨w.heap.size+1,99,none⟩=some (.bool false):=(cell_blk h1 _).trans rfl
   have x4:wc.cell? ⟨w.heap.size+1,100,none⟩=some (.bool false):=(cell_blk h1 _).trans rfl
   have x5:wc.cell? ⟨w.heap.size+1,101,none⟩=some (.bool false):=(cell_blk h1 _).trans rfl
   have x6:wc.cell? ⟨w.heap.size+1,102,none⟩=some (.bool false):=(cell_blk h1 _).trans rfl
   have x7:wc.cell? ⟨w.heap.size+1,103,none⟩=some (.bool false):=(cell_blk h1 _).trans rfl
   clear h1
   go_wp2_with fail
   refine gen_world (Q:=fun W=>bodyPost _ _ _ _ _ W) _ (fun W=>W.heap[w.heap.size]?=some (.cells #[.string ⟨#[115,104,111,119]⟩,.bool true,.bool true,.bool false,.bool false,.bool false,.bool false,.bool false] 192 (0,0))/\Below w.heap.size w W) ⟨set8 h0 _ _ _ _ _ _ _ _,below_set (below_set (below_set (below_set (below_set (below_set (below_set (below_set hb (Nat.le_refl _)) (Nat.le_refl _)) (Nat.le_refl _)) (Nat.le_refl _)) (Nat.le_refl _)) (Nat.le_refl _)) (Nat.le_refl _)) (Nat.le_refl _)⟩ ?_
   rintro W ⟨hq,hb2⟩
   have q0:W.cell? ⟨w.heap.size,0,none⟩=some (.string ⟨#[115,104,111,119]⟩):=(cell_blk hq _).trans rfl
   have q1:W.cell? ⟨w.heap.size,1,none⟩=some (.bool true):=(cell_blk hq _).trans rfl
   have q2:W.cell? ⟨w.heap.size,2,none⟩=some (.bool true):=(cell_blk hq _).trans rfl
   have q3:W.cell? ⟨w.heap.size,3,none⟩=some (.bool false):=(cell_blk hq _).trans rfl
   have q4:W.cell? ⟨w.heap.size,4,none⟩=some (.bool false):=(cell_blk hq _).trans rfl
   have q5:W.cell? ⟨w.heap.size,5,none⟩=some (.bool false):=(cell_blk hq _).trans rfl
   have q6:W.cell? ⟨w.heap.size,6,none⟩=some (.bool false):=(cell_blk hq _).trans rfl
   have q7:W.cell? ⟨w.heap.size,7,none⟩=some (.bool false):=(cell_blk hq _).trans rfl
   exact bodyPost_ret (v:= .tuple #[.agg #[.string ⟨#[115,104,111,119]⟩,.bool true,.bool true,.bool false,.bool false,.bool false,.bool false,.bool false],.bool true]) (by simp [results,Tryz.results142,go_sem,q0,q1,q2,q3,q4,q5,q6,q7]) rfl ⟨_,rfl,hb2⟩
  ·have x0:wc.cell? ⟨w.heap.size+1,104,none⟩=some (.string ⟨#[100,114,97,119]⟩):=(cell_blk h1 _).trans rfl
   have x1:wc.cell? ⟨w.heap.size+1,105,none⟩=some (.bool true):=(cell_blk h1 _).trans rfl
   have x2:wc.cell? ⟨w.heap.size+1,106,none⟩=some (.bool false):=(cell_blk h1 _).trans rfl
   have x3:wc.cell? ⟨w.heap.size+1,107,none⟩=some (.bool false):=(cell_blk h1 _).trans rfl
   have x4:wc.cell? ⟨w.heap.size+1,108,none⟩=some (.bool false):=(cell_blk h1 _).trans rfl
   have x5:wc.cell? ⟨w.heap.size+1,109,none⟩=some (.bool false):=(cell_blk h1 _).trans rfl
   have x6:wc.cell? ⟨w.heap.size+1,110,none⟩=some (.bool false):=(cell_blk h1 _).trans rfl
   have x7:wc.cell? ⟨w.heap.size+1,111,none⟩=some (.bool false):=(cell_blk h1 _).trans rfl
   clear h1
   go_wp2_with fail
   refine gen_world (Q:=fun W=>bodyPost _ _ _ _ _ W) _ (fun W=>W.heap[w.heap.size]?=some (.cells #[.string ⟨#[100,114,97,119]⟩,.bool true,.bool false,.bool false,.bool false,.bool false,.bool false,.bool false] 192 (0,0))/\Below w.heap.size w W) ⟨set8 h0 _ _ _ _ _ _ _ _,below_set (below_set (below_set (below_set (below_set (below_set (below_set (below_set hb (Nat.le_refl _)) (Nat.le_refl _)) (Nat.le_refl _)) (Nat.le_refl _)) (Nat.le_refl _)) (Nat.le_refl _)) (Nat.le_refl _)) (Nat.le_refl _)⟩ ?_
   rintro W ⟨hq,hb2⟩
   have q0:W.cell? ⟨w.heap.size,0,none⟩=some (.string ⟨#[100,114,97,119]⟩):=(cell_blk hq _).trans rfl
   have q1:W.cell? ⟨w.heap.size,1,none⟩=some (.bool true):=(cell_blk hq _).trans rfl
   have q2:W.cell? ⟨w.heap.size,2,none⟩=some (.bool false):=(cell_blk hq _).trans rfl
   have q3:W.cell? ⟨w.heap.size,3,none⟩=some (.bool false):=(cell_blk hq _).trans rfl
   have q4:W.cell? ⟨w.heap.size,4,none⟩=some (.bool false):=(cell_blk hq _).trans rfl
   have q5:W.cell? ⟨w.heap.size,5,none⟩=some (.bool false):=(cell_blk hq _).trans rfl
   have q6:W.cell? ⟨w.heap.size,6,none⟩=some (.bool false):=(cell_blk hq _).trans rfl
   have q7:W.cell? ⟨w.heap.size,7,none⟩=some (.bool false):=(cell_blk hq _).trans rfl
   exact bodyPost_ret (v:= .tuple #[.agg #[.string ⟨#[100,114,97,119]⟩,.bool true,.bool false,.bool false,.bool false,.bool false,.bool false,.bool false],.bool true]) (by simp [results,Tryz.results142,go_sem,q0,q1,q2,q3,q4,q5,q6,q7]) rfl ⟨_,rfl,hb2⟩
  ·have x0:wc.cell? ⟨w.heap.size+1,112,none⟩=some (.string ⟨#[105,102]⟩):=(cell_blk h1 _).trans rfl
   have x1:wc.cell? ⟨w.heap.size+1,113,none⟩=some (.bool false):=(cell_blk h1 _).trans rfl
   have x2:wc.cell? ⟨w.heap.size+1,114,none⟩=some (.bool true):=(cell_blk h1 _).trans rfl
   have x3:wc.cell? ⟨w.heap.size+1,115,none⟩=some (.bool false):=(cell_blk h1 _).trans rfl
   have x4:wc.cell? ⟨w.heap.size+1,116,none⟩=some (.bool false):=(cell_blk h1 _).trans rfl
   have x5:wc.cell? ⟨w.heap.size+1,117,none⟩=some (.bool false):=(cell_blk h1 _).trans rfl
   have x6:wc.cell? ⟨w.heap.size+1,118,none⟩=some (.bool true):=(cell_blk h1 _).trans rfl
   have x7:wc.cell? ⟨w.heap.size+1,119,none⟩=some (.bool true):=(cell_blk h1 _).trans rfl
   clear h1
   go_wp2_with fail
   refine gen_world (Q:=fun W=>bodyPost _ _ _ _ _ W) _ (fun W=>W.heap[w.heap.size]?=some (.cells #[.string ⟨#[105,102]⟩,.bool false,.bool true,.bool false,.bool false,.bool false,.bool true,.bool true] 192 (0,0))/\Below w.heap.size w W) ⟨set8 h0 _ _ _ _ _ _ _ _,below_set (below_set (below_set (below_set (below_set (below_set (below_set (below_set hb (Nat.le_refl _)) (Nat.le_refl _)) (Nat.le_refl _)) (Nat.le_refl _)) (Nat.le_refl _)) (Nat.le_refl _)) (Nat.le_refl _)) (Nat.le_refl _)⟩ ?_
   rintro W ⟨hq,hb2⟩
   have q0:W.cell? ⟨w.heap.size,0,none⟩=some (.string ⟨#[105,102]⟩):=(cell_blk hq _).trans rfl
   have q1:W.cell? ⟨w.heap.size,1,none⟩=some (.bool false):=(cell_blk hq _).trans rfl
   have q2:W.cell? ⟨w.heap.size,2,none⟩=some (.bool true):=(cell_blk hq _).trans rfl
   have q3:W.cell? ⟨w.heap.size,3,none⟩=some (.bool false):=(cell_blk hq _).trans rfl
   have q4:W.cell? ⟨w.heap.size,4,none⟩=some (.bool false):=(cell_blk hq _).trans rfl
   have q5:W.cell? ⟨w.heap.size,5,none⟩=some (.bool false):=(cell_blk hq _).trans rfl
   have q6:W.cell? ⟨w.heap.size,6,none⟩=some (.bool true):=(cell_blk hq _).trans rfl
   have q7:W.cell? ⟨w.heap.size,7,none⟩=some (.bool true):=(cell_blk hq _).trans rfl
   exact bodyPost_ret (v:= .tuple #[.agg #[.string ⟨#[105,102]⟩,.bool false,.bool true,.bool false,.bool false,.bool false,.bool true,.bool true],.bool true]) (by simp [results,Tryz.results142,go_sem,q0,q1,q2,q3,q4,q5,q6,q7]) rfl ⟨_,rfl,hb2⟩
  ·have x0:wc.cell? ⟨w.heap.size+1,120,none⟩=some (.string ⟨#[116,105,109,101,115]⟩):=(cell_blk h1 _).trans rfl
   have x1:wc.cell? ⟨w.heap.size+1,121,none⟩=some (.bool false):=(cell_blk h1 _).trans rfl
   have x2:wc.cell? ⟨w.heap.size+1,122,none⟩=some (.bool false):=(cell_blk h1 _).trans rfl
   have x3:wc.cell? ⟨w.heap.size+1,123,none⟩=some (.bool false):=(cell_blk h1 _).trans rfl
   have x4:wc.cell? ⟨w.heap.size+1,124,none⟩=some (.bool false):=(cell_blk h1 _).trans rfl
   have x5:wc.cell? ⟨w.heap.size+1,125,none⟩=some (.bool true):=(cell_blk h1 _).trans rfl
   have x6:wc.cell? ⟨w.heap.size+1,126,none⟩=some (.bool true):=(cell_blk h1 _).trans rfl
   have x7:wc.cell? ⟨w.heap.size+1,127,none⟩=some (.bool false):=(cell_blk h1 _).trans rfl
   clear h1
   go_wp2_with fail
   refine gen_world (Q:=fun W=>bodyPost _ _ _ _ _ W) _ (fun W=>W.heap[w.heap.size]?=some (.cells #[.string ⟨#[116,105,109,101,115]⟩,.bool false,.bool false,.bool false,.bool false,.bool true,.bool true,.bool false] 192 (0,0))/\Below w.heap.size w W) ⟨set8 h0 _ _ _ _ _ _ _ _,below_set (below_set (below_set (below_set (below_set (below_set (below_set (below_set hb (Nat.le_refl _)) (Nat.le_refl _)) (Nat.le_refl _)) (Nat.le_refl _)) (Nat.le_refl _)) (Nat.le_refl _)) (Nat.le_refl _)) (Nat.le_refl _)⟩ ?_
   rintro W ⟨hq,hb2⟩
   have q0:W.cell? ⟨w.heap.size,0,none⟩=some (.string ⟨#[116,105,109,101,115]⟩):=(cell_blk hq _).trans rfl
   have q1:W.cell? ⟨w.heap.size,1,none⟩=some (.bool false):=(cell_blk hq _).trans rfl
   have q2:W.cell? ⟨w.heap.size,2,none⟩=some (.bool false):=(cell_blk hq _).trans rfl
   have q3:W.cell? ⟨w.heap.size,3,none⟩=some (.bool false):=(cell_blk hq _).trans rfl
   have q4:W.cell? ⟨w.heap.size,4,none⟩=some (.bool false):=(cell_blk hq _).trans rfl
   have q5:W.cell? ⟨w.heap.size,5,none⟩=some (.bool true):=(cell_blk hq _).trans rfl
   have q6:W.cell? ⟨w.heap.size,6,none⟩=some (.bool true):=(cell_blk hq _).trans rfl
   have q7:W.cell? ⟨w.heap.size,7,none⟩=some (.bool false):=(cell_blk hq _).trans rfl
   exact bodyPost_ret (v:= .tuple #[.agg #[.string ⟨#[116,105,109,101,115]⟩,.bool false,.bool false,.bool false,.bool false,.bool true,.bool true,.bool false],.bool true]) (by simp [results,Tryz.results142,go_sem,q0,q1,q2,q3,q4,q5,q6,q7]) rfl ⟨_,rfl,hb2⟩
  ·have x0:wc.cell? ⟨w.heap.size+1,128,none⟩=some (.string ⟨#[117,110,116,105,108]⟩):=(cell_blk h1 _).trans rfl
   have x1:wc.cell? ⟨w.heap.size+1,129,none⟩=some (.bool false):=(cell_blk h1 _).trans rfl
   have x2:wc.cell? ⟨w.heap.size+1,130,none⟩=some (.bool true):=(cell_blk h1 _).trans rfl
   have x3:wc.cell? ⟨w.heap.size+1,131,none⟩=some (.bool false):=(cell_blk h1 _).trans rfl
   have x4:wc.cell? ⟨w.heap.size+1,132,none⟩=some (.bool false):=(cell_blk h1 _).trans rfl
   have x5:wc.cell? ⟨w.heap.size+1,133,none⟩=some (.bool true):=(cell_blk h1 _).trans rfl
   have x6:wc.cell? ⟨w.heap.size+1,134,none⟩=some (.bool true):=(cell_blk h1 _).trans rfl
   have x7:wc.cell? ⟨w.heap.size+1,135,none⟩=some (.bool false):=(cell_blk h1 _).trans rfl
   clear h1
   go_wp2_with fail
   refine gen_world (Q:=fun W=>bodyPost _ _ _ _ _ W) _ (fun W=>W.heap[w.heap.size]?=some (.cells #[.string ⟨#[117,110,116,105,108]⟩,.bool false,.bool true,.bool false,.bool false,.bool true,.bool true,.bool false] 192 (0,0))/\Below w.heap.size w W) ⟨set8 h0 _ _ _ _ _ _ _ _,below_set (below_set (below_set (below_set (below_set (below_set (below_set (below_set hb (Nat.le_refl _)) (Nat.le_refl _)) (Nat.le_refl _)) (Nat.le_refl _)) (Nat.le_refl _)) (Nat.le_refl _)) (Nat.le_refl _)) (Nat.le_refl _)⟩ ?_
   rintro W ⟨hq,hb2⟩
   have q0:W.cell? ⟨w.heap.size,0,none⟩=some (.string ⟨#[117,110,116,105,108]⟩):=(cell_blk hq _).trans rfl
   have q1:W.cell? ⟨w.heap.size,1,none⟩=some (.bool false):=(cell_blk hq _).trans rfl
   have q2:W.cell? ⟨w.heap.size,2,none⟩=some (.bool true):=(cell_blk hq _).trans rfl
   have q3:W.cell? ⟨w.heap.size,3,none⟩=some (.bool false):=(cell_blk hq _).trans rfl
   have q4:W.cell? ⟨w.heap.size,4,none⟩=some (.bool false):=(cell_blk hq _).trans rfl
   have q5:W.cell? ⟨w.heap.size,5,none⟩=some (.bool true):=(cell_blk hq _).trans rfl
   have q6:W.cell? ⟨w.heap.size,6,none⟩=some (.bool true):=(cell_blk hq _).trans rfl
   have q7:W.cell? ⟨w.heap.size,7,none⟩=some (.bool false):=(cell_blk hq _).trans rfl
   exact bodyPost_ret (v:= .tuple #[.agg #[.string ⟨#[117,110,116,105,108]⟩,.bool false,.bool true,.bool false,.bool false,.bool true,.bool true,.bool false],.bool true]) (by simp [results,Tryz.results142,go_sem,q0,q1,q2,q3,q4,q5,q6,q7]) rfl ⟨_,rfl,hb2⟩
end Go.Proofs.YtkplfaionpplaaaGreatDoor
