/- Part 15: B41, B42, B43, B44, B45. -/
import Derived.Test.YtkplfaionpplaaaGreatDoorK14
set_option maxRecDepth 100000
set_option maxHeartbeats 6400000
set_option linter.unusedVariables false
set_option linter.unusedSimpArgs false
namespace Go.Proofs.YtkplfaionpplaaaGreatDoor
open Go.RowKit
def no7:Al.Has:=⟨false,false,false,false,false,false,false⟩
def hasV (g:Al.Has):Value:= .agg #[.bool g.d,.bool g.a,.bool g.b,.bool g.c,.bool g.k,.bool g.body,.bool g.other]
def hasG (op:Int):Al.Has:=(Al.hasOf op).getD no7
theorem none_of {op:Int}(h:op≠1/\op≠2/\op≠3/\op≠4/\op≠5/\op≠6/\op≠7/\op≠8/\op≠9/\op≠10/\op≠11/\op≠12/\op≠13/\op≠14/\op≠15/\op≠16):Al.hasOf op=none:=by
 unfold Al.hasOf;simp [h]
theorem ref_of_1 (w:World):Calls Tryz.prog 128 #[.int .i64 1] w fun e w'=>e= .returned (.tuple #[.agg #[.bool true,.bool false,.bool false,.bool false,.bool false,.bool false,.bool false],.bool true])/\Below w.heap.size w w':=by
 go_enter Tryz.func128,Tryz.ntmps128
 go_wp2_with fail
 exact bodyPost_ret (v:= .tuple #[.agg #[.bool true,.bool false,.bool false,.bool false,.bool false,.bool false,.bool false],.bool true]) (by simp [results,Tryz.results128,go_sem]) rfl ⟨rfl,(Below.refl _ _).alloc (Nat.le_refl _) _⟩
theorem ref_of_2 (w:World):Calls Tryz.prog 128 #[.int .i64 2] w fun e w'=>e= .returned (.tuple #[.agg #[.bool true,.bool true,.bool false,.bool false,.bool false,.bool false,.bool false],.bool true])/\Below w.heap.size w w':=by
 go_enter Tryz.func128,Tryz.ntmps128
 go_wp2_with fail
 exact bodyPost_ret (v:= .tuple #[.agg #[.bool true,.bool true,.bool false,.bool false,.bool false,.bool false,.bool false],.bool true]) (by simp [results,Tryz.results128,go_sem]) rfl ⟨rfl,(Below.refl _ _).alloc (Nat.le_refl _) _⟩
theorem ref_of_3 (w:World):Calls Tryz.prog 128 #[.int .i64 3] w fun e w'=>e= .returned (.tuple #[.agg #[.bool true,.bool true,.bool true,.bool false,.bool false,.bool false,.bool false],.bool true])/\Below w.heap.size w w':=by
 go_enter Tryz.func128,Tryz.ntmps128
 go_wp2_with fail
 exact bodyPost_ret (v:= .tuple #[.agg #[.bool true,.bool true,.bool true,.bool false,.bool false,.bool false,.bool false],.bool true]) (by simp [results,Tryz.results128,go_sem]) rfl ⟨rfl,(Below.refl _ _).alloc (Nat.le_refl _) _⟩
theorem ref_of_4 (w:World):Calls Tryz.prog 128 #[.int .i64 4] w fun e w'=>e= .returned (.tuple #[.agg #[.bool true,.bool true,.bool true,.bool false,.bool false,.bool false,.bool false],.bool true])/\Below w.heap.size w w':=by
 go_enter Tryz.func128,Tryz.ntmps128
 go_wp2_with fail
 exact bodyPost_ret (v:= .tuple #[.agg #[.bool true,.bool true,.bool true,.bool false,.bool false,.bool false,.bool false],.bool true]) (by simp [results,Tryz.results128,go_sem]) rfl ⟨rfl,(Below.refl _ _).alloc (Nat.le_refl _) _⟩
theorem ref_of_5 (w:World):Calls Tryz.prog 128 #[.int .i64 5] w fun e w'=>e= .returned (.tuple #[.agg #[.bool true,.bool true,.bool true,.bool false,.bool false,.bool false,.bool false],.bool true])/\Below w.heap.size w w':=by
 go_enter Tryz.func128,Tryz.ntmps128
 go_wp2_with fail
 exact bodyPost_ret (v:= .tuple #[.agg #[.bool true,.bool true,.bool true,.bool false,.bool false,.bool false,.bool false],.bool true]) (by simp [results,Tryz.results128,go_sem]) rfl ⟨rfl,(Below.refl _ _).alloc (Nat.le_refl _) _⟩
theorem ref_of_6 (w:World):Calls Tryz.prog 128 #[.int .i64 6] w fun e w'=>e= .returned (.tuple #[.agg #[.bool true,.bool true,.bool false,.bool false,.bool true,.bool false,.bool false],.bool true])/\Below w.heap.size w w':=by
 go_enter Tryz.func128,Tryz.ntmps128
 go_wp2_with fail
 exact bodyPost_ret (v:= .tuple #[.agg #[.bool true,.bool true,.bool false,.bool false,.bool true,.bool false,.bool false],.bool true]) (by simp [results,Tryz.results128,go_sem]) rfl ⟨rfl,(Below.refl _ _).alloc (Nat.le_refl _) _⟩
theorem ref_of_7 (w:World):Calls Tryz.prog 128 #[.int .i64 7] w fun e w'=>e= .returned (.tuple #[.agg #[.bool true,.bool true,.bool true,.bool false,.bool false,.bool false,.bool false],.bool true])/\Below w.heap.size w w':=by
 go_enter Tryz.func128,Tryz.ntmps128
 go_wp2_with fail
 exact bodyPost_ret (v:= .tuple #[.agg #[.bool true,.bool true,.bool true,.bool false,.bool false,.bool false,.bool false],.bool true]) (by simp [results,Tryz.results128,go_sem]) rfl ⟨rfl,(Below.refl _ _).alloc (Nat.le_refl _) _⟩
theorem ref_of_8 (w:World):Calls Tryz.prog 128 #[.int .i64 8] w fun e w'=>e= .returned (.tuple #[.agg #[.bool true,.bool true,.bool false,.bool false,.bool true,.bool false,.bool false],.bool true])/\Below w.heap.size w w':=by
 go_enter Tryz.func128,Tryz.ntmps128
 go_wp2_with fail
 exact bodyPost_ret (v:= .tuple #[.agg #[.bool true,.bool true,.bool false,.bool false,.bool true,.bool false,.bool false],.bool true]) (by simp [results,Tryz.results128,go_sem]) rfl ⟨rfl,(Below.refl _ _).alloc (Nat.le_refl _) _⟩
theorem ref_of_9 (w:World):Calls Tryz.prog 128 #[.int .i64 9] w fun e w'=>e= .returned (.tuple #[.agg #[.bool true,.bool true,.bool false,.bool false,.bool true,.bool false,.bool false],.bool true])/\Below w.heap.size w w':=by
 go_enter Tryz.func128,Tryz.ntmps128
 go_wp2_with fail
 exact bodyPost_ret (v:= .tuple #[.agg #[.bool true,.bool true,.bool false,.bool false,.bool true,.bool false,.bool false],.bool true]) (by simp [results,Tryz.results128,go_sem]) rfl ⟨rfl,(Below.refl _ _).alloc (Nat.le_refl _) _⟩
theorem ref_of_10 (w:World):Calls Tryz.prog 128 #[.int .i64 10] w fun e w'=>e= .returned (.tuple #[.agg #[.bool true,.bool true,.bool true,.bool true,.bool false,.bool false,.bool false],.bool true])/\Below w.heap.size w w':=by
 go_enter Tryz.func128,Tryz.ntmps128
 go_wp2_with fail
 exact bodyPost_ret (v:= .tuple #[.agg #[.bool true,.bool true,.bool true,.bool true,.bool false,.bool false,.bool false],.bool true]) (by simp [results,Tryz.results128,go_sem]) rfl ⟨rfl,(Below.refl _ _).alloc (Nat.le_refl _) _⟩
theorem ref_of_11 (w:World):Calls Tryz.prog 128 #[.int .i64 11] w fun e w'=>e= .returned (.tuple #[.agg #[.bool true,.bool true,.bool false,.bool false,.bool true,.bool false,.bool false],.bool true])/\Below w.heap.size w w':=by
 go_enter Tryz.func128,Tryz.ntmps128
 go_wp2_with fail
 exact bodyPost_ret (v:= .tuple #[.agg #[.bool true,.bool true,.bool false,.bool false,.bool true,.bool false,.bool false],.bool true]) (by simp [results,Tryz.results128,go_sem]) rfl ⟨rfl,(Below.refl _ _).alloc (Nat.le_refl _) _⟩
theorem ref_of_12 (w:World):Calls Tryz.prog 128 #[.int .i64 12] w fun e w'=>e= .returned (.tuple #[.agg #[.bool true,.bool true,.bool false,.bool false,.bool false,.bool false,.bool false],.bool true])/\Below w.heap.size w w':=by
 go_enter Tryz.func128,Tryz.ntmps128
 go_wp2_with fail
 exact bodyPost_ret (v:= .tuple #[.agg #[.bool true,.bool true,.bool false,.bool false,.bool false,.bool false,.bool false],.bool true]) (by simp [results,Tryz.results128,go_sem]) rfl ⟨rfl,(Below.refl _ _).alloc (Nat.le_refl _) _⟩
theorem ref_of_13 (w:World):Calls Tryz.prog 128 #[.int .i64 13] w fun e w'=>e= .returned (.tuple #[.agg #[.bool true,.bool false,.bool false,.bool false,.bool false,.bool false,.bool false],.bool true])/\Below w.heap.size w w':=by
 go_enter Tryz.func128,Tryz.ntmps128
 go_wp2_with fail
 exact bodyPost_ret (v:= .tuple #[.agg #[.bool true,.bool false,.bool false,.bool false,.bool false,.bool false,.bool false],.bool true]) (by simp [results,Tryz.results128,go_sem]) rfl ⟨rfl,(Below.refl _ _).alloc (Nat.le_refl _) _⟩
theorem ref_of_14 (w:World):Calls Tryz.prog 128 #[.int .i64 14] w fun e w'=>e= .returned (.tuple #[.agg #[.bool false,.bool true,.bool false,.bool false,.bool false,.bool true,.bool true],.bool true])/\Below w.heap.size w w':=by
 go_enter Tryz.func128,Tryz.ntmps128
 go_wp2_with fail
 exact bodyPost_ret (v:= .tuple #[.agg #[.bool false,.bool true,.bool false,.bool false,.bool false,.bool true,.bool true],.bool true]) (by simp [results,Tryz.results128,go_sem]) rfl ⟨rfl,(Below.refl _ _).alloc (Nat.le_refl _) _⟩
theorem ref_of_15 (w:World):Calls Tryz.prog 128 #[.int .i64 15] w fun e w'=>e= .returned (.tuple #[.agg #[.bool false,.bool false,.bool false,.bool false,.bool true,.bool true,.bool false],.bool true])/\Below w.heap.size w w':=by
 go_enter Tryz.func128,Tryz.ntmps128
 go_wp2_with fail
 exact bodyPost_ret (v:= .tuple #[.agg #[.bool false,.bool false,.bool false,.bool false,.bool true,.bool true,.bool false],.bool true]) (by simp [results,Tryz.results128,go_sem]) rfl ⟨rfl,(Below.refl _ _).alloc (Nat.le_refl _) _⟩
theorem ref_of_16 (w:World):Calls Tryz.prog 128 #[.int .i64 16] w fun e w'=>e= .returned (.tuple #[.agg #[.bool false,.bool true,.bool false,.bool false,.bool true,.bool true,.bool false],.bool true])/\Below w.heap.size w w':=by
 go_enter Tryz.func128,Tryz.ntmps128
 go_wp2_with fail
 exact bodyPost_ret (v:= .tuple #[.agg #[.bool false,.bool true,.bool false,.bool false,.bool true,.bool true,.bool false],.bool true]) (by simp [results,Tryz.results128,go_sem]) rfl ⟨rfl,(Below.refl _ _).alloc (Nat.le_refl _) _⟩
theorem ref_of_no (w:World)(op:Int)(h:op≠1/\op≠2/\op≠3/\op≠4/\op≠5/\op≠6/\op≠7/\op≠8/\op≠9/\op≠10/\op≠11/\op≠12/\op≠13/\op≠14/\op≠15/\op≠16):Calls Tryz.prog 128 #[.int .i64 op] w fun e w'=>e= .returned (.tuple #[.agg #[.bool false,.bool false,.bool false,.bool false,.bool false,.bool false,.bool false],.bool false])/\Below w.heap.size w w':=by
 obtain⟨h1,h2,h3,h4,h5,h6,h7,h8,h9,h10,h11,h12,h13,h14,h15,h16⟩:=h
 replace h1:=beq_false_of_ne h1
 replace h2:=beq_false_of_ne h2
 replace h3:=beq_false_of_ne h3
 replace h4:=beq_false_of_ne h4
 replace h5:=beq_false_of_ne h5
 replace h6:=beq_false_of_ne h6
 replace h7:=beq_false_of_ne h7
 replace h8:=beq_false_of_ne h8
 replace h9:=beq_false_of_ne h9
 replace h10:=beq_false_of_ne h10
 replace h11:=beq_false_of_ne h11
 replace h12:=beq_false_of_ne h12
 replace h13:=beq_false_of_ne h13
 replace h14:=beq_false_of_ne h14
 replace h15:=beq_false_of_ne h15
 replace h16:=beq_false_of_ne h16
 go_enter Tryz.func128,Tryz.ntmps128
 go_wp2_with fail
 exact bodyPost_ret (v:= .tuple #[.agg #[.bool false,.bool false,.bool false,.bool false,.bool false,.bool false,.bool false],.bool false]) (by simp [results,Tryz.results128,go_sem]) rfl ⟨rfl,(Below.refl _ _).alloc (Nat.le_refl _) _⟩
theorem ref_of (w:World)(op:Int):Calls Tryz.prog 128 #[.int .i64 op] w fun e w'=>e= .returned (.tuple #[hasV (hasG op),.bool (Al.hasOf op).isSome])/\Below w.heap.size w w':=by
 by_cases h1:op=1
 ·subst h1;exact ref_of_1 w
 by_cases h2:op=2
 ·subst h2;exact ref_of_2 w
 by_cases h3:op=3
 ·subst h3;exact ref_of_3 w
 by_cases h4:op=4
 ·subst h4;exact ref_of_4 w
 by_cases h5:op=5
 ·subst h5;exact ref_of_5 w
 by_cases h6:op=6
 ·subst h6;exact ref_of_6 w
 by_cases h7:op=7
 ·subst h7;exact ref_of_7 w
 by_cases h8:op=8
 ·subst h8;exact ref_of_8 w
 by_cases h9:op=9
 ·subst h9;exact ref_of_9 w
 by_cases h10:op=10
 ·subst h10;exact ref_of_10 w
 by_cases h11:op=11
 ·subst h11;exact ref_of_11 w
 by_cases h12:op=12
 ·subst h12;exact ref_of_12 w
 by_cases h13:op=13
 ·subst h13;exact ref_of_13 w
 by_cases h14:op=14
 ·subst h14;exact ref_of_14 w
 by_cases h15:op=15
 ·subst h15;exact ref_of_15 w
 by_cases h16:op=16
 ·subst h16;exact ref_of_16 w
 have h:=And.intro h1 (And.intro h2 (And.intro h3 (And.intro h4 (And.intro h5 (And.intro h6 (And.intro h7 (And.intro h8 (And.intro h9 (And.intro h10 (And.intro h11 (And.intro h12 (And.intro h13 (And.intro h14 (And.intro h15 h16))))))))))))))
 unfold hasG
 rw [none_of h]
 exact ref_of_no w op h
theorem uses_hasG (s:Al.Stmt):Al.usesOf s=(if (hasG s.op).a=true then [s.a] else [])++((if (hasG s.op).b=true then [s.b] else [])++(if (hasG s.op).c=true then [s.c] else [])):=by
 unfold Al.usesOf hasG
 cases Al.hasOf s.op with
 |none=>rfl
 |some g=>rfl
structure UR (w w':World)(ks kf:Nat)(s:Al.Stmt)(x6 x7:Value)(g:Al.Has)(L:List Int)(v:Value):Prop where
 own:w'.ownsRow w.heap.size 3 1 v L.length (intsV L)
 sb:SB w' ks s x6 x7
 fb:w'.heap[kf]?=some (.cells #[.bool g.d,.bool g.a,.bool g.b,.bool g.c,.bool g.k,.bool g.body,.bool g.other] 176 (0,0))
 below:Below w.heap.size w w'
theorem UR.more {w W w2:World}{ks kf:Nat}{s:Al.Stmt}{x6 x7:Value}{g:Al.Has}{L:List Int}{v v2:Value}(h:UR w W ks kf s x6 x7 g L v)(x:Int)(hown:w2.ownsRow w.heap.size 3 1 v2 (L.length+1) (intsV L++[.int .i64 x]))(hg:(W.alloc (.cells #[.int .i64 x] 3)).grownBy w2 v.ownBlock):UR w w2 ks kf s x6 x7 g (L++[x]) v2:=by
 have ho:=h.own.alloc (.cells #[.int .i64 x] 3)
 refine⟨by simpa [intsV] using hown,grow_blk hg (alloc_blk _ h.sb) (own_ne_blk ho (alloc_blk _ h.sb) (by decide)),grow_blk hg (alloc_blk _ h.fb) (own_ne_blk ho (alloc_blk _ h.fb) (by decide)),below_grown (h.below.alloc h.below.size _) hg (fun k hk=>(ho.lt k hk).1) (by have:=h.below.size;simp;omega)⟩
theorem UR.facts {w W:World}{ks kf:Nat}{s:Al.Stmt}{x6 x7:Value}{g:Al.Has}{L:List Int}{v:Value}(h:UR w W ks kf s x6 x7 g L v):W.cell? ⟨ks,2,none⟩=some (.int .i64 s.a)/\W.cell? ⟨ks,3,none⟩=some (.int .i64 s.b)/\W.cell? ⟨ks,4,none⟩=some (.int .i64 s.c)/\W.cell? ⟨kf,1,none⟩=some (.bool g.a)/\W.cell? ⟨kf,2,none⟩=some (.bool g.b)/\W.cell? ⟨kf,3,none⟩=some (.bool g.c):=
 ⟨h.sb.cells.2.2.1,h.sb.cells.2.2.2.1,h.sb.cells.2.2.2.2.1,(cell_blk h.fb _).trans rfl,(cell_blk h.fb _).trans rfl,(cell_blk h.fb _).trans rfl⟩
theorem ref_uses (w:World)(s:Al.Stmt)(x6 x7:Value):Calls Tryz.prog 129 #[.agg (stmtV s x6 x7)] w fun e w'=>∃ v,e= .returned v/\w'.ownsRow w.heap.size 3 1 v (Al.usesOf s).length (intsV (Al.usesOf s))/\Below w.heap.size w w':=by
 rw [uses_hasG s]
 obtain⟨j0,hj0,jz0,jz1,jz2⟩:=info_parts Tryz.infoInt
 obtain⟨W,hW⟩:∃ W,W=w.alloc (.cells (stmtV s x6 x7) 66):=⟨_,rfl⟩
 obtain⟨ks,hks⟩:∃ ks,ks=w.heap.size:=⟨_,rfl⟩
 have hb0:Below w.heap.size w W:=by rw [hW];exact (Below.refl _ _).alloc (Nat.le_refl _) _
 have h0:SB W ks s x6 x7:=by rw [hW,hks];exact heap_alloc_new w _
 have hkl:ks<W.heap.size:=blk_lt h0
 have HF:=ref_of W s.op
 unfold hasV at HF
 obtain⟨g,hg⟩:∃ g,g=hasG s.op:=⟨_,rfl⟩
 rw [<-hg] at HF ⊢
 obtain⟨is,his⟩:∃ is,is=(Al.hasOf s.op).isSome:=⟨_,rfl⟩
 rw [<-his] at HF
 clear hg his
 go_enter Tryz.func129,Tryz.ntmps129
 unfold stmtV
 go_wp2_with fail
 have hWu:W=w.alloc (.cells #[.int .i64 s.op,.int .i64 s.d,.int .i64 s.a,.int .i64 s.b,.int .i64 s.c,.int .i64 s.k,x6,x7] 66):=hW
 rw [<-hWu]
 simp only [<-hks]
 replace hks:=Lib.hid hks
 clear hW hWu
 obtain⟨gd,ga,gb,gc,gk,gB,gO⟩:=g
 dsimp only at HF ⊢
 cases ga<;> cases gb<;> cases gc
 ·go_wp2_with (first|(go_at_call 128;refine HF.mono ?_;rintro e w1 ⟨rfl,hb1⟩;have U0:UR w (w1.alloc (.cells #[.bool gd,.bool false,.bool false,.bool false,.bool gk,.bool gB,.bool gO] 176)) ks w1.heap.size s x6 x7 ⟨gd,false,false,false,gk,gB,gO⟩ [] (.slice none 0 0):=⟨World.ownsRow_nil _ _ _ _,alloc_blk _ (h0.below hb1 hkl),heap_alloc_new _ _,(hb0.trans (lower_below hb1 hb0.size)).alloc (Nat.le_trans hb0.size hb1.size) _⟩;obtain⟨z0_2,z0_3,z0_4,y0_1,y0_2,y0_3⟩:=U0.facts))
  exact bodyPost_ret (v:= .slice none 0 0) (by simp [results,Tryz.results129,go_sem]) rfl ⟨_,rfl,by simpa [intsV] using U0.own,U0.below⟩
 ·go_wp2_with (first|(go_at_call 128;refine HF.mono ?_;rintro e w1 ⟨rfl,hb1⟩;have U0:UR w (w1.alloc (.cells #[.bool gd,.bool false,.bool false,.bool true,.bool gk,.bool gB,.bool gO] 176)) ks w1.heap.size s x6 x7 ⟨gd,false,false,true,gk,gB,gO⟩ [] (.slice none 0 0):=⟨World.ownsRow_nil _ _ _ _,alloc_blk _ (h0.below hb1 hkl),heap_alloc_new _ _,(hb0.trans (lower_below hb1 hb0.size)).alloc (Nat.le_trans hb0.size hb1.size) _⟩;obtain⟨z0_2,z0_3,z0_4,y0_1,y0_2,y0_3⟩:=U0.facts)|(at_builtin;refine wpList_append_own_at _ rfl (.tmp 28) (.tmp 31) 86 rfl w.heap.size 3 j0 _ 1 8 Tryz.underlying86 hj0 jz0 jz1 jz2 rfl (by omega) _ _ _ rfl (U0.own.alloc _) ⟨_,0,none⟩ 1 1 [.int .i64 s.c] rfl rfl (World.news_of_block (alloc_at _ _ _)) (by simp [Value.oneCell']) (by unfold maxLen;simp) (by simp) (by have:=U0.below.size;simp at this ⊢;omega) ?_;intro v1 wv1 hown hgrow hnil hat;have U1:=U0.more _ hown hgrow;obtain⟨z1_2,z1_3,z1_4,y1_1,y1_2,y1_3⟩:=U1.facts))
  exact bodyPost_ret (v:=v1) (by simp [results,Tryz.results129,go_sem]) rfl ⟨_,rfl,by simpa [intsV] using U1.own,U1.below⟩
 ·go_wp2_with (first|(go_at_call 128;refine HF.mono ?_;rintro e w1 ⟨rfl,hb1⟩;have U0:UR w (w1.alloc (.cells #[.bool gd,.bool false,.bool true,.bool false,.bool gk,.bool gB,.bool gO] 176)) ks w1.heap.size s x6 x7 ⟨gd,false,true,false,gk,gB,gO⟩ [] (.slice none 0 0):=⟨World.ownsRow_nil _ _ _ _,alloc_blk _ (h0.below hb1 hkl),heap_alloc_new _ _,(hb0.trans (lower_below hb1 hb0.size)).alloc (Nat.le_trans hb0.size hb1.size) _⟩;obtain⟨z0_2,z0_3,z0_4,y0_1,y0_2,y0_3⟩:=U0.facts)|(at_builtin;refine wpList_append_own_at _ rfl (.tmp 21) (.tmp 24) 86 rfl w.heap.size 3 j0 _ 1 8 Tryz.underlying86 hj0 jz0 jz1 jz2 rfl (by omega) _ _ _ rfl (U0.own.alloc _) ⟨_,0,none⟩ 1 1 [.int .i64 s.b] rfl rfl (World.news_of_block (alloc_at _ _ _)) (by simp [Value.oneCell']) (by unfold maxLen;simp) (by simp) (by have:=U0.below.size;simp at this ⊢;omega) ?_;intro v1 wv1 hown hgrow hnil hat;have U1:=U0.more _ hown hgrow;obtain⟨z1_2,z1_3,z1_4,y1_1,y1_2,y1_3⟩:=U1.facts))
  exact bodyPost_ret (v:=v1) (by simp [results,Tryz.results129,go_sem]) rfl ⟨_,rfl,by simpa [intsV] using U1.own,U1.below⟩
 ·go_wp2_with (first|(go_at_call 128;refine HF.mono ?_;rintro e w1 ⟨rfl,hb1⟩;have U0:UR w (w1.alloc (.cells #[.bool gd,.bool false,.bool true,.bool true,.bool gk,.bool gB,.bool gO] 176)) ks w1.heap.size s x6 x7 ⟨gd,false,true,true,gk,gB,gO⟩ [] (.slice none 0 0):=⟨World.ownsRow_nil _ _ _ _,alloc_blk _ (h0.below hb1 hkl),heap_alloc_new _ _,(hb0.trans (lower_below hb1 hb0.size)).alloc (Nat.le_trans hb0.size hb1.size) _⟩;obtain⟨z0_2,z0_3,z0_4,y0_1,y0_2,y0_3⟩:=U0.facts)|(at_builtin;refine wpList_append_own_at _ rfl (.tmp 21) (.tmp 24) 86 rfl w.heap.size 3 j0 _ 1 8 Tryz.underlying86 hj0 jz0 jz1 jz2 rfl (by omega) _ _ _ rfl (U0.own.alloc _) ⟨_,0,none⟩ 1 1 [.int .i64 s.b] rfl rfl (World.news_of_block (alloc_at _ _ _)) (by simp [Value.oneCell']) (by unfold maxLen;simp) (by simp) (by have:=U0.below.size;simp at this ⊢;omega) ?_;intro v1 wv1 hown hgrow hnil hat;have U1:=U0.more _ hown hgrow;obtain⟨z1_2,z1_3,z1_4,y1_1,y1_2,y1_3⟩:=U1.facts)|(at_builtin;refine wpList_append_own_at _ rfl (.tmp 28) (.tmp 31) 86 rfl w.heap.size 3 j0 _ 1 8 Tryz.underlying86 hj0 jz0 jz1 jz2 rfl (by omega) _ _ _ rfl (U1.own.alloc _) ⟨_,0,none⟩ 1 1 [.int .i64 s.c] rfl rfl (World.news_of_block (heap_alloc_new _ _)) (by simp [Value.oneCell']) (by unfold maxLen;simp) (by simp) (by have:=U1.below.size;simp at this ⊢;omega) ?_;intro v2 wv2 hown hgrow hnil hat;have U2:=U1.more _ hown hgrow;obtain⟨z2_2,z2_3,z2_4,y2_1,y2_2,y2_3⟩:=U2.facts))
  exact bodyPost_ret (v:=v2) (by simp [results,Tryz.results129,go_sem]) rfl ⟨_,rfl,by simpa [intsV] using U2.own,U2.below⟩
 ·go_wp2_with (first|(go_at_call 128;refine HF.mono ?_;rintro e w1 ⟨rfl,hb1⟩;have U0:UR w (w1.alloc (.cells #[.bool gd,.bool true,.bool false,.bool false,.bool gk,.bool gB,.bool gO] 176)) ks w1.heap.size s x6 x7 ⟨gd,true,false,false,gk,gB,gO⟩ [] (.slice none 0 0):=⟨World.ownsRow_nil _ _ _ _,alloc_blk _ (h0.below hb1 hkl),heap_alloc_new _ _,(hb0.trans (lower_below hb1 hb0.size)).alloc (Nat.le_trans hb0.size hb1.size) _⟩;obtain⟨z0_2,z0_3,z0_4,y0_1,y0_2,y0_3⟩:=U0.facts)|(at_builtin;refine wpList_append_own_at _ rfl (.tmp 14) (.tmp 17) 86 rfl w.heap.size 3 j0 _ 1 8 Tryz.underlying86 hj0 jz0 jz1 jz2 rfl (by omega) _ _ _ rfl (U0.own.alloc _) ⟨_,0,none⟩ 1 1 [.int .i64 s.a] rfl rfl (World.news_of_block (alloc_at _ _ _)) (by simp [Value.oneCell']) (by unfold maxLen;simp) (by simp) (by have:=U0.below.size;simp at this ⊢;omega) ?_;intro v1 wv1 hown hgrow hnil hat;have U1:=U0.more _ hown hgrow;obtain⟨z1_2,z1_3,z1_4,y1_1,y1_2,y1_3⟩:=U1.facts))
  exact bodyPost_ret (v:=v1) (by simp [results,Tryz.results129,go_sem]) rfl ⟨_,rfl,by simpa [intsV] using U1.own,U1.below⟩
 ·go_wp2_with (first|(go_at_call 128;refine HF.mono ?_;rintro e w1 ⟨rfl,hb1⟩;have U0:UR w (w1.alloc (.cells #[.bool gd,.bool true,.bool false,.bool true,.bool gk,.bool gB,.bool gO] 176)) ks w1.heap.size s x6 x7 ⟨gd,true,false,true,gk,gB,gO⟩ [] (.slice none 0 0):=⟨World.ownsRow_nil _ _ _ _,alloc_blk _ (h0.below hb1 hkl),heap_alloc_new _ _,(hb0.trans (lower_below hb1 hb0.size)).alloc (Nat.le_trans hb0.size hb1.size) _⟩;obtain⟨z0_2,z0_3,z0_4,y0_1,y0_2,y0_3⟩:=U0.facts)|(at_builtin;refine wpList_append_own_at _ rfl (.tmp 14) (.tmp 17) 86 rfl w.heap.size 3 j0 _ 1 8 Tryz.underlying86 hj0 jz0 jz1 jz2 rfl (by omega) _ _ _ rfl (U0.own.alloc _) ⟨_,0,none⟩ 1 1 [.int .i64 s.a] rfl rfl (World.news_of_block (alloc_at _ _ _)) (by simp [Value.oneCell']) (by unfold maxLen;simp) (by simp) (by have:=U0.below.size;simp at this ⊢;omega) ?_;intro v1 wv1 hown hgrow hnil hat;have U1:=U0.more _ hown hgrow;obtain⟨z1_2,z1_3,z1_4,y1_1,y1_2,y1_3⟩:=U1.facts)|(at_builtin;refine wpList_append_own_at _ rfl (.tmp 28) (.tmp 31) 86 rfl w.heap.size 3 j0 _ 1 8 Tryz.underlying86 hj0 jz0 jz1 jz2 rfl (by omega) _ _ _ rfl (U1.own.alloc _) ⟨_,0,none⟩ 1 1 [.int .i64 s.c] rfl rfl (World.news_of_block (heap_alloc_new _ _)) (by simp [Value.oneCell']) (by unfold maxLen;simp) (by simp) (by have:=U1.below.size;simp at this ⊢;omega) ?_;intro v2 wv2 hown hgrow hnil hat;have U2:=U1.more _ hown hgrow;obtain⟨z2_2,z2_3,z2_4,y2_1,y2_2,y2_3⟩:=U2.facts))
  exact bodyPost_ret (v:=v2) (by simp [results,Tryz.results129,go_sem]) rfl ⟨_,rfl,by simpa [intsV] using U2.own,U2.below⟩
 ·go_wp2_with (first|(go_at_call 128;refine HF.mono ?_;rintro e w1 ⟨rfl,hb1⟩;have U0:UR w (w1.alloc (.cells #[.bool gd,.bool true,.bool true,.bool false,.bool gk,.bool gB,.bool gO] 176)) ks w1.heap.size s x6 x7 ⟨gd,true,true,false,gk,gB,gO⟩ [] (.slice none 0 0):=⟨World.ownsRow_nil _ _ _ _,alloc_blk _ (h0.below hb1 hkl),heap_alloc_new _ _,(hb0.trans (lower_below hb1 hb0.size)).alloc (Nat.le_trans hb0.size hb1.size) _⟩;obtain⟨z0_2,z0_3,z0_4,y0_1,y0_2,y0_3⟩:=U0.facts)|(at_builtin;refine wpList_append_own_at _ rfl (.tmp 14) (.tmp 17) 86 rfl w.heap.size 3 j0 _ 1 8 Tryz.underlying86 hj0 jz0 jz1 jz2 rfl (by omega) _ _ _ rfl (U0.own.alloc _) ⟨_,0,none⟩ 1 1 [.int .i64 s.a] rfl rfl (World.news_of_block (alloc_at _ _ _)) (by simp [Value.oneCell']) (by unfold maxLen;simp) (by simp) (by have:=U0.below.size;simp at this ⊢;omega) ?_;intro v1 wv1 hown hgrow hnil hat;have U1:=U0.more _ hown hgrow;obtain⟨z1_2,z1_3,z1_4,y1_1,y1_2,y1_3⟩:=U1.facts)|(at_builtin;refine wpList_append_own_at _ rfl (.tmp 21) (.tmp 24) 86 rfl w.heap.size 3 j0 _ 1 8 Tryz.underlying86 hj0 jz0 jz1 jz2 rfl (by omega) _ _ _ rfl (U1.own.alloc _) ⟨_,0,none⟩ 1 1 [.int .i64 s.b] rfl rfl (World.news_of_block (heap_alloc_new _ _)) (by simp [Value.oneCell']) (by unfold maxLen;simp) (by simp) (by have:=U1.below.size;simp at this ⊢;omega) ?_;intro v2 wv2 hown hgrow hnil hat;have U2:=U1.more _ hown hgrow;obtain⟨z2_2,z2_3,z2_4,y2_1,y2_2,y2_3⟩:=U2.facts))
  exact bodyPost_ret (v:=v2) (by simp [results,Tryz.results129,go_sem]) rfl ⟨_,rfl,by simpa [intsV] using U2.own,U2.below⟩
 ·go_wp2_with (first|(go_at_call 128;refine HF.mono ?_;rintro e w1 ⟨rfl,hb1⟩;have U0:UR w (w1.alloc (.cells #[.bool gd,.bool true,.bool true,.bool true,.bool gk,.bool gB,.bool gO] 176)) ks w1.heap.size s x6 x7 ⟨gd,true,true,true,gk,gB,gO⟩ [] (.slice none 0 0):=⟨World.ownsRow_nil _ _ _ _,alloc_blk _ (h0.below hb1 hkl),heap_alloc_new _ _,(hb0.trans (lower_below hb1 hb0.size)).alloc (Nat.le_trans hb0.size hb1.size) _⟩;obtain⟨z0_2,z0_3,z0_4,y0_1,y0_2,y0_3⟩:=U0.facts)|(at_builtin;refine wpList_append_own_at _ rfl (.tmp 14) (.tmp 17) 86 rfl w.heap.size 3 j0 _ 1 8 Tryz.underlying86 hj0 jz0 jz1 jz2 rfl (by omega) _ _ _ rfl (U0.own.alloc _) ⟨_,0,none⟩ 1 1 [.int .i64 s.a] rfl rfl (World.news_of_block (alloc_at _ _ _)) (by simp [Value.oneCell']) (by unfold maxLen;simp) (by simp) (by have:=U0.below.size;simp at this ⊢;omega) ?_;intro v1 wv1 hown hgrow hnil hat;have U1:=U0.more _ hown hgrow;obtain⟨z1_2,z1_3,z1_4,y1_1,y1_2,y1_3⟩:=U1.facts)|(at_builtin;refine wpList_append_own_at _ rfl (.tmp 21) (.tmp 24) 86 rfl w.heap.size 3 j0 _ 1 8 Tryz.underlying86 hj0 jz0 jz1 jz2 rfl (by omega) _ _ _ rfl (U1.own.alloc _) ⟨_,0,none⟩ 1 1 [.int .i64 s.b] rfl rfl (World.news_of_block (heap_alloc_new _ _)) (by simp [Value.oneCell']) (by unfold maxLen;simp) (by simp) (by have:=U1.below.size;simp at this ⊢;omega) ?_;intro v2 wv2 hown hgrow hnil hat;have U2:=U1.more _ hown hgrow;obtain⟨z2_2,z2_3,z2_4,y2_1,y2_2,y2_3⟩:=U2.facts)|(at_builtin;refine wpList_append_own_at _ rfl (.tmp 28) (.tmp 31) 86 rfl w.heap.size 3 j0 _ 1 8 Tryz.underlying86 hj0 jz0 jz1 jz2 rfl (by omega) _ _ _ rfl (U2.own.alloc _) ⟨_,0,none⟩ 1 1 [.int .i64 s.c] rfl rfl (World.news_of_block (heap_alloc_new _ _)) (by simp [Value.oneCell']) (by unfold maxLen;simp) (by simp) (by have:=U2.below.size;simp at this ⊢;omega) ?_;intro v3 wv3 hown hgrow hnil hat;have U3:=U2.more _ hown hgrow;obtain⟨z3_2,z3_3,z3_4,y3_1,y3_2,y3_3⟩:=U3.facts))
  exact bodyPost_ret (v:=v3) (by simp [results,Tryz.results129,go_sem]) rfl ⟨_,rfl,by simpa [intsV] using U3.own,U3.below⟩
theorem ref_writes (w:World)(s:Al.Stmt)(x6 x7:Value):Calls Tryz.prog 131 #[.agg (stmtV s x6 x7)] w fun e w'=>e= .returned (.tuple #[.int .i64 (if (hasG s.op).d then s.d else 0),.bool (hasG s.op).d])/\Below w.heap.size w w':=by
 obtain⟨W,hW⟩:∃ W,W=w.alloc (.cells (stmtV s x6 x7) 66):=⟨_,rfl⟩
 obtain⟨ks,hks⟩:∃ ks,ks=w.heap.size:=⟨_,rfl⟩
 have hb0:Below w.heap.size w W:=by rw [hW];exact (Below.refl _ _).alloc (Nat.le_refl _) _
 have h0:SB W ks s x6 x7:=by rw [hW,hks];exact heap_alloc_new w _
 have hkl:ks<W.heap.size:=blk_lt h0
 have HF:=ref_of W s.op
 unfold hasV at HF
 obtain⟨g,hg⟩:∃ g,g=hasG s.op:=⟨_,rfl⟩
 rw [<-hg] at HF ⊢
 obtain⟨is,his⟩:∃ is,is=(Al.hasOf s.op).isSome:=⟨_,rfl⟩
 rw [<-his] at HF
 clear hg his
 go_enter Tryz.func131,Tryz.ntmps131
 unfold stmtV
 go_wp2_with fail
 have hWu:W=w.alloc (.cells #[.int .i64 s.op,.int .i64 s.d,.int .i64 s.a,.int .i64 s.b,.int .i64 s.c,.int .i64 s.k,x6,x7] 66):=hW
 rw [<-hWu]
 simp only [<-hks]
 replace hks:=Lib.hid hks
 clear hW hWu
 obtain⟨gd,ga,gb,gc,gk,gB,gO⟩:=g
 dsimp only at HF ⊢
 cases gd
 all_goals
  go_wp2_with (first|(go_at_call 128;refine HF.mono ?_;rintro e w1 ⟨rfl,hb1⟩;have v1:∀ o,(w1.alloc o).cell? ⟨ks,1,none⟩=_:=fun o=>alloc_cell o (h0.below hb1 hkl).cells.2.1))
 ·exact bodyPost_ret (v:= .tuple #[.int .i64 0,.bool false]) (by simp [results,Tryz.results131,go_sem]) rfl ⟨rfl,(hb0.trans (lower_below hb1 hb0.size)).alloc (Nat.le_trans hb0.size hb1.size) _⟩
 ·exact bodyPost_ret (v:= .tuple #[.int .i64 s.d,.bool true]) (by simp [results,Tryz.results131,go_sem]) rfl ⟨rfl,(hb0.trans (lower_below hb1 hb0.size)).alloc (Nat.le_trans hb0.size hb1.size) _⟩
theorem ref_bitted (w:World)(q n k:Int)(hq:0<=q/\q<8388608):Calls Tryz.prog 174 #[.agg #[.int .i64 q,.int .i64 n],.int .i64 k] w fun e w'=>e= .returned (.bool (decide (1<=k/\k<=30/\(2:Int) ^ k.toNat<q)))/\Below w.heap.size w w':=by
 have hb:Below w.heap.size w (w.alloc (.cells #[.int .i64 q,.int .i64 n] 23)):=(Below.refl _ _).alloc (Nat.le_refl _) _
 obtain⟨r,hr⟩:∃ r,r=decide (1<=k/\k<=30/\(2:Int) ^ k.toNat<q):=⟨_,rfl⟩
 rw [<-hr]
 by_cases c0:1<=k
 ·have t0:decide (1<=k)=true:=decide_eq_true c0
  by_cases c1:k<=30
  ·have t1:decide (k<=30)=true:=decide_eq_true c1
   have hk:((k.toNat:Nat):Int)=k:=by omega
   have hw:IntKind.u64.wrap k=k:=IntWalk.u64_in _ (by omega)
   have t3:¬k<0:=by omega
   have p1:=one_le_pow2 k.toNat
   have p2:(2:Int) ^ k.toNat<=2 ^ 30:=by
    have h:=Nat.pow_le_pow_right (show 0<2 by decide) (show k.toNat<=30 by omega)
    have e:((2 ^ k.toNat:Nat):Int)=2 ^ k.toNat:=by simp
    omega
   have t4:wrap64 (2 ^ k.toNat)=2 ^ k.toNat:=by unfold wrap64;omega
   have t5:IntKind.i64.wrap (2 ^ k.toNat)=2 ^ k.toNat:=IntWalk.i64_in _ (by omega)
   by_cases c2:(2:Int) ^ k.toNat<q
   ·have t2:decide ((2:Int) ^ k.toNat<q)=true:=decide_eq_true c2
    subst hr
    first
     |rw [decide_eq_true (show 1<=k/\k<=30/\(2:Int) ^ k.toNat<q from⟨c0,c1,c2⟩)]
     |rw [decide_eq_false (show¬(1<=k/\k<=30/\(2:Int) ^ k.toNat<q) from fun h=>by first|exact c0 h.1|exact c1 h.2.1|exact c2 h.2.2)]
    go_enter Tryz.func174,Tryz.ntmps174
    go_wp2_with fail
    exact bodyPost_ret (v:= .bool true) (by simp [results,Tryz.results174,go_sem, *]) rfl ⟨rfl,hb⟩
   ·have t2:decide ((2:Int) ^ k.toNat<q)=false:=decide_eq_false c2
    subst hr
    first
     |rw [decide_eq_true (show 1<=k/\k<=30/\(2:Int) ^ k.toNat<q from⟨c0,c1,c2⟩)]
     |rw [decide_eq_false (show¬(1<=k/\k<=30/\(2:Int) ^ k.toNat<q) from fun h=>by first|exact c0 h.1|exact c1 h.2.1|exact c2 h.2.2)]
    go_enter Tryz.func174,Tryz.ntmps174
    go_wp2_with fail
    exact bodyPost_ret (v:= .bool false) (by simp [results,Tryz.results174,go_sem, *]) rfl ⟨rfl,hb⟩
  ·have t1:decide (k<=30)=false:=decide_eq_false c1
   subst hr
   first
    |rw [decide_eq_true (show 1<=k/\k<=30/\(2:Int) ^ k.toNat<q from⟨c0,c1,c2⟩)]
    |rw [decide_eq_false (show¬(1<=k/\k<=30/\(2:Int) ^ k.toNat<q) from fun h=>by first|exact c0 h.1|exact c1 h.2.1|exact c2 h.2.2)]
   go_enter Tryz.func174,Tryz.ntmps174
   go_wp2_with fail
   exact bodyPost_ret (v:= .bool false) (by simp [results,Tryz.results174,go_sem, *]) rfl ⟨rfl,hb⟩
 ·have t0:decide (1<=k)=false:=decide_eq_false c0
  subst hr
  first
   |rw [decide_eq_true (show 1<=k/\k<=30/\(2:Int) ^ k.toNat<q from⟨c0,c1,c2⟩)]
   |rw [decide_eq_false (show¬(1<=k/\k<=30/\(2:Int) ^ k.toNat<q) from fun h=>by first|exact c0 h.1|exact c1 h.2.1|exact c2 h.2.2)]
  go_enter Tryz.func174,Tryz.ntmps174
  go_wp2_with fail
  exact bodyPost_ret (v:= .bool false) (by simp [results,Tryz.results174,go_sem, *]) rfl ⟨rfl,hb⟩
theorem ref_K (w:World)(q n:Int)(s:Al.Stmt)(x6 x7:Value)(hq:0<=q/\q<8388608):Calls Tryz.prog 130 #[.agg #[.int .i64 q,.int .i64 n],.agg (stmtV s x6 x7)] w fun e w'=>e= .returned (.bool (Al.numOk q s))/\Below w.heap.size w w':=by
 have hb:=alloc_two w (.cells #[.int .i64 q,.int .i64 n] 23) (.cells (stmtV s x6 x7) 66)
 have HB:=fun w0=>ref_bitted w0 q n s.k hq
 unfold stmtV at hb
 unfold Al.numOk
 cases s with|mk op d a b c k body els=>
 dsimp only at hb HB ⊢
 by_cases h6:op=6
 ·subst h6
  have e:(if (6:Int)=6 then decide (0<=k/\k<q) else if (6:Int)=8\/(6:Int)=9 then decide (1<=k/\k<=30/\(2:Int) ^ k.toNat<q) else if (6:Int)=11 then decide (0<=k/\k<=q) else if (6:Int)=15\/(6:Int)=16 then decide (1<=k/\k<=50) else true)=decide (0<=k/\k<q):=by simp
  rw [e]
  by_cases c0:0<=k
  ·have t0:decide (0<=k)=true:=decide_eq_true c0
   by_cases c1:k<q
   ·have t1:decide (k<q)=true:=decide_eq_true c1
    rw [decide_eq_true (show 0<=k/\k<q from⟨c0,c1⟩)]
    clear e
    unfold stmtV
    go_enter Tryz.func130,Tryz.ntmps130
    go_wp2_with fail
    exact bodyPost_ret (v:= .bool true) (by simp [results,Tryz.results130,go_sem, *]) rfl ⟨rfl,hb⟩
   ·have t1:decide (k<q)=false:=decide_eq_false c1
    rw [decide_eq_false (show¬(0<=k/\k<q) from fun h=>c1 h.2)]
    clear e
    unfold stmtV
    go_enter Tryz.func130,Tryz.ntmps130
    go_wp2_with fail
    exact bodyPost_ret (v:= .bool false) (by simp [results,Tryz.results130,go_sem, *]) rfl ⟨rfl,hb⟩
  ·have t0:decide (0<=k)=false:=decide_eq_false c0
   rw [decide_eq_false (show¬(0<=k/\k<q) from fun h=>c0 h.1)]
   clear e
   unfold stmtV
   go_enter Tryz.func130,Tryz.ntmps130
   go_wp2_with fail
   exact bodyPost_ret (v:= .bool false) (by simp [results,Tryz.results130,go_sem, *]) rfl ⟨rfl,hb⟩
 by_cases h11:op=11
 ·subst h11
  have e:(if (11:Int)=6 then decide (0<=k/\k<q) else if (11:Int)=8\/(11:Int)=9 then decide (1<=k/\k<=30/\(2:Int) ^ k.toNat<q) else if (11:Int)=11 then decide (0<=k/\k<=q) else if (11:Int)=15\/(11:Int)=16 then decide (1<=k/\k<=50) else true)=decide (0<=k/\k<=q):=by simp
  rw [e]
  by_cases c0:0<=k
  ·have t0:decide (0<=k)=true:=decide_eq_true c0
   by_cases c1:k<=q
   ·have t1:decide (k<=q)=true:=decide_eq_true c1
    rw [decide_eq_true (show 0<=k/\k<=q from⟨c0,c1⟩)]
    clear e
    unfold stmtV
    go_enter Tryz.func130,Tryz.ntmps130
    go_wp2_with fail
    exact bodyPost_ret (v:= .bool true) (by simp [results,Tryz.results130,go_sem, *]) rfl ⟨rfl,hb⟩
   ·have t1:decide (k<=q)=false:=decide_eq_false c1
    rw [decide_eq_false (show¬(0<=k/\k<=q) from fun h=>c1 h.2)]
    clear e
    unfold stmtV
    go_enter Tryz.func130,Tryz.ntmps130
    go_wp2_with fail
    exact bodyPost_ret (v:= .bool false) (by simp [results,Tryz.results130,go_sem, *]) rfl ⟨rfl,hb⟩
  ·have t0:decide (0<=k)=false:=decide_eq_false c0
   rw [decide_eq_false (show¬(0<=k/\k<=q) from fun h=>c0 h.1)]
   clear e
   unfold stmtV
   go_enter Tryz.func130,Tryz.ntmps130
   go_wp2_with fail
   exact bodyPost_ret (v:= .bool false) (by simp [results,Tryz.results130,go_sem, *]) rfl ⟨rfl,hb⟩
 by_cases h15:op=15
 ·subst h15
  have e:(if (15:Int)=6 then decide (0<=k/\k<q) else if (15:Int)=8\/(15:Int)=9 then decide (1<=k/\k<=30/\(2:Int) ^ k.toNat<q) else if (15:Int)=11 then decide (0<=k/\k<=q) else if (15:Int)=15\/(15:Int)=16 then decide (1<=k/\k<=50) else true)=decide (1<=k/\k<=50):=by simp
  rw [e]
  by_cases c0:1<=k
  ·have t0:decide (1<=k)=true:=decide_eq_true c0
   by_cases c1:k<=50
   ·have t1:decide (k<=50)=true:=decide_eq_true c1
    rw [decide_eq_true (show 1<=k/\k<=50 from⟨c0,c1⟩)]
    clear e
    unfold stmtV
    go_enter Tryz.func130,Tryz.ntmps130
    go_wp2_with fail
    exact bodyPost_ret (v:= .bool true) (by simp [results,Tryz.results130,go_sem, *]) rfl ⟨rfl,hb⟩
   ·have t1:decide (k<=50)=false:=decide_eq_false c1
    rw [decide_eq_false (show¬(1<=k/\k<=50) from fun h=>c1 h.2)]
    clear e
    unfold stmtV
    go_enter Tryz.func130,Tryz.ntmps130
    go_wp2_with fail
    exact bodyPost_ret (v:= .bool false) (by simp [results,Tryz.results130,go_sem, *]) rfl ⟨rfl,hb⟩
  ·have t0:decide (1<=k)=false:=decide_eq_false c0
   rw [decide_eq_false (show¬(1<=k/\k<=50) from fun h=>c0 h.1)]
   clear e
   unfold stmtV
   go_enter Tryz.func130,Tryz.ntmps130
   go_wp2_with fail
   exact bodyPost_ret (v:= .bool false) (by simp [results,Tryz.results130,go_sem, *]) rfl ⟨rfl,hb⟩
 by_cases h16:op=16
 ·subst h16
  have e:(if (16:Int)=6 then decide (0<=k/\k<q) else if (16:Int)=8\/(16:Int)=9 then decide (1<=k/\k<=30/\(2:Int) ^ k.toNat<q) else if (16:Int)=11 then decide (0<=k/\k<=q) else if (16:Int)=15\/(16:Int)=16 then decide (1<=k/\k<=50) else true)=decide (1<=k/\k<=50):=by simp
  rw [e]
  by_cases c0:1<=k
  ·have t0:decide (1<=k)=true:=decide_eq_true c0
   by_cases c1:k<=50
   ·have t1:decide (k<=50)=true:=decide_eq_true c1
    rw [decide_eq_true (show 1<=k/\k<=50 from⟨c0,c1⟩)]
    clear e
    unfold stmtV
    go_enter Tryz.func130,Tryz.ntmps130
    go_wp2_with fail
    exact bodyPost_ret (v:= .bool true) (by simp [results,Tryz.results130,go_sem, *]) rfl ⟨rfl,hb⟩
   ·have t1:decide (k<=50)=false:=decide_eq_false c1
    rw [decide_eq_false (show¬(1<=k/\k<=50) from fun h=>c1 h.2)]
    clear e
    unfold stmtV
    go_enter Tryz.func130,Tryz.ntmps130
    go_wp2_with fail
    exact bodyPost_ret (v:= .bool false) (by simp [results,Tryz.results130,go_sem, *]) rfl ⟨rfl,hb⟩
  ·have t0:decide (1<=k)=false:=decide_eq_false c0
   rw [decide_eq_false (show¬(1<=k/\k<=50) from fun h=>c0 h.1)]
   clear e
   unfold stmtV
   go_enter Tryz.func130,Tryz.ntmps130
   go_wp2_with fail
   exact bodyPost_ret (v:= .bool false) (by simp [results,Tryz.results130,go_sem, *]) rfl ⟨rfl,hb⟩
 by_cases h8:op=8
 ·subst h8
  have e:(if (8:Int)=6 then decide (0<=k/\k<q) else if (8:Int)=8\/(8:Int)=9 then decide (1<=k/\k<=30/\(2:Int) ^ k.toNat<q) else if (8:Int)=11 then decide (0<=k/\k<=q) else if (8:Int)=15\/(8:Int)=16 then decide (1<=k/\k<=50) else true)=decide (1<=k/\k<=30/\(2:Int) ^ k.toNat<q):=by simp
  rw [e]
  clear e
  by_cases c0:1<=k
  ·have t0:decide (1<=k)=true:=decide_eq_true c0
   by_cases c1:k<=30
   ·have t1:decide (k<=30)=true:=decide_eq_true c1
    obtain⟨r,hr⟩:∃ r,r=decide (1<=k/\k<=30/\(2:Int) ^ k.toNat<q):=⟨_,rfl⟩
    rw [<-hr] at HB ⊢
    clear hr
    have hk0:IntKind.i64.wrap k=k:=IntWalk.i64_in _ (by omega)
    unfold stmtV
    go_enter Tryz.func130,Tryz.ntmps130
    go_wp2_with (first|(go_at_call 174;refine (HB _).mono ?_;rintro e w1 ⟨rfl,hb1⟩))
    exact bodyPost_ret (v:= .bool r) (by simp [results,Tryz.results130,go_sem]) rfl ⟨rfl,hb.trans (lower_below hb1 hb.size)⟩
   ·have t1:decide (k<=30)=false:=decide_eq_false c1
    rw [decide_eq_false (show¬(1<=k/\k<=30/\(2:Int) ^ k.toNat<q) from fun h=>c1 h.2.1)]
    unfold stmtV
    go_enter Tryz.func130,Tryz.ntmps130
    go_wp2_with fail
    exact bodyPost_ret (v:= .bool false) (by simp [results,Tryz.results130,go_sem, *]) rfl ⟨rfl,hb⟩
  ·have t0:decide (1<=k)=false:=decide_eq_false c0
   rw [decide_eq_false (show¬(1<=k/\k<=30/\(2:Int) ^ k.toNat<q) from fun h=>c0 h.1)]
   unfold stmtV
   go_enter Tryz.func130,Tryz.ntmps130
   go_wp2_with fail
   exact bodyPost_ret (v:= .bool false) (by simp [results,Tryz.results130,go_sem, *]) rfl ⟨rfl,hb⟩
 by_cases h9:op=9
 ·subst h9
  have e:(if (9:Int)=6 then decide (0<=k/\k<q) else if (9:Int)=8\/(9:Int)=9 then decide (1<=k/\k<=30/\(2:Int) ^ k.toNat<q) else if (9:Int)=11 then decide (0<=k/\k<=q) else if (9:Int)=15\/(9:Int)=16 then decide (1<=k/\k<=50) else true)=decide (1<=k/\k<=30/\(2:Int) ^ k.toNat<q):=by simp
  rw [e]
  clear e
  by_cases c0:1<=k
  ·have t0:decide (1<=k)=true:=decide_eq_true c0
   by_cases c1:k<=30
   ·have t1:decide (k<=30)=true:=decide_eq_true c1
    obtain⟨r,hr⟩:∃ r,r=decide (1<=k/\k<=30/\(2:Int) ^ k.toNat<q):=⟨_,rfl⟩
    rw [<-hr] at HB ⊢
    clear hr
    have hk0:IntKind.i64.wrap k=k:=IntWalk.i64_in _ (by omega)
    unfold stmtV
    go_enter Tryz.func130,Tryz.ntmps130
    go_wp2_with (first|(go_at_call 174;refine (HB _).mono ?_;rintro e w1 ⟨rfl,hb1⟩))
    exact bodyPost_ret (v:= .bool r) (by simp [results,Tryz.results130,go_sem]) rfl ⟨rfl,hb.trans (lower_below hb1 hb.size)⟩
   ·have t1:decide (k<=30)=false:=decide_eq_false c1
    rw [decide_eq_false (show¬(1<=k/\k<=30/\(2:Int) ^ k.toNat<q) from fun h=>c1 h.2.1)]
    unfold stmtV
    go_enter Tryz.func130,Tryz.ntmps130
    go_wp2_with fail
    exact bodyPost_ret (v:= .bool false) (by simp [results,Tryz.results130,go_sem, *]) rfl ⟨rfl,hb⟩
  ·have t0:decide (1<=k)=false:=decide_eq_false c0
   rw [decide_eq_false (show¬(1<=k/\k<=30/\(2:Int) ^ k.toNat<q) from fun h=>c0 h.1)]
   unfold stmtV
   go_enter Tryz.func130,Tryz.ntmps130
   go_wp2_with fail
   exact bodyPost_ret (v:= .bool false) (by simp [results,Tryz.results130,go_sem, *]) rfl ⟨rfl,hb⟩
 rw [if_neg h6,if_neg (by omega),if_neg h11,if_neg (by omega)]
 replace h6:=beq_false_of_ne h6
 replace h8:=beq_false_of_ne h8
 replace h9:=beq_false_of_ne h9
 replace h11:=beq_false_of_ne h11
 replace h15:=beq_false_of_ne h15
 replace h16:=beq_false_of_ne h16
 unfold stmtV
 go_enter Tryz.func130,Tryz.ntmps130
 go_wp2_with fail
 exact bodyPost_ret (v:= .bool true) (by simp [results,Tryz.results130,go_sem, *]) rfl ⟨rfl,hb⟩
theorem ref_kind (w:World)(k:Int):Calls Tryz.prog 85 #[.int .i64 k] w fun e w'=>e= .returned (.bool (decide (k=1\/k=2\/k=3)))/\w'=w:=by
 by_cases h1:k=1
 ·subst h1
  rw [decide_eq_true (show (1:Int)=1\/(1:Int)=2\/(1:Int)=3 by decide)]
  go_enter Tryz.func85,Tryz.ntmps85
  go_wp2_with fail
  exact bodyPost_ret (v:= .bool true) (by simp [results,Tryz.results85,go_sem]) rfl ⟨rfl,rfl⟩
 by_cases h2:k=2
 ·subst h2
  rw [decide_eq_true (show (2:Int)=1\/(2:Int)=2\/(2:Int)=3 by decide)]
  go_enter Tryz.func85,Tryz.ntmps85
  go_wp2_with fail
  exact bodyPost_ret (v:= .bool true) (by simp [results,Tryz.results85,go_sem]) rfl ⟨rfl,rfl⟩
 by_cases h3:k=3
 ·subst h3
  rw [decide_eq_true (show (3:Int)=1\/(3:Int)=2\/(3:Int)=3 by decide)]
  go_enter Tryz.func85,Tryz.ntmps85
  go_wp2_with fail
  exact bodyPost_ret (v:= .bool true) (by simp [results,Tryz.results85,go_sem]) rfl ⟨rfl,rfl⟩
 rw [decide_eq_false (show¬(k=1\/k=2\/k=3) by omega)]
 replace h1:=beq_false_of_ne h1
 replace h2:=beq_false_of_ne h2
 replace h3:=beq_false_of_ne h3
 go_enter Tryz.func85,Tryz.ntmps85
 go_wp2_with fail
 exact bodyPost_ret (v:= .bool false) (by simp [results,Tryz.results85,go_sem]) rfl ⟨rfl,rfl⟩
structure BI (w w':World)(kp ks:Nat)(p:Al.Prog)(Va Ab:Option Addr)(vc cb:Nat)(s:Al.Stmt)(x6 x7:Value)(a:Option Addr)(cap:Nat)(L:List Int):Prop where
 below:Below w.heap.size w w'
 P:PBox w' kp p Va Ab vc cb
 S:SB w' ks s x6 x7
 I:IntsAt w' (.slice a L.length cap) L
theorem BI.drewN {w w':World}{kp ks:Nat}{p:Al.Prog}{Va Ab:Option Addr}{vc cb:Nat}{s:Al.Stmt}{x6 x7:Value}{a:Option Addr}{cap:Nat}{L:List Int}(h:BI w w' kp ks p Va Ab vc cb s x6 x7 a cap L)(n:Nat):BI w (w'.drewN n) kp ks p Va Ab vc cb s x6 x7 a cap L:=
 ⟨Go.Proofs.YtkplfaionpplaaaGreatDoorW.PrintWords.pw_below_drewN h.below n,h.P,h.S,h.I⟩
theorem ints_get {w:World}{a:Option Addr}{cap:Nat}{L:List Int}(hI:IntsAt w (.slice a L.length cap) L){j:Nat}(hj:j<L.length):∃ ag,a=some ⟨ag,0,none⟩/\w.cell? ⟨ag,j,none⟩=some (.int .i64 L[j]):=by
 rcases hI with⟨h,h0⟩|⟨g,c,cur,h,h1,h2⟩
 ·subst h0;simp at hj
 ·simp only [Value.slice.injEq,true_and] at h
  exact⟨g,h.1,by rw [cell_blk h1,h2 j hj]⟩
def secOf (p:Al.Prog)(v:Int):Bool:=(rd_T901 p.vars v).secret
theorem ref_breaks {w:World}{p:Al.Prog}{Va Ab:Option Addr}{vc cb:Nat}(hp:PLies w p Va Ab vc cb)(s:Al.Stmt)(x6 x7:Value){g:Al.Has}(hg:Al.hasOf s.op=some g)(hr:∀ v∈Al.usesOf s,0<=v/\v<p.vars.length)(hd:g.d=true->0<=s.d/\s.d<p.vars.length):
  Calls Tryz.prog 88 #[progV p Va Ab vc cb,.agg (stmtV s x6 x7)] w fun e w'=>e= .returned (.bool (Al.breaksB p.vars s))/\Below w.heap.size w w':=by
 obtain⟨W,hW⟩:∃ W,W=(w.alloc (.cells #[.int .i64 p.q,.int .i64 p.n,.slice Va p.vars.length vc,.slice Ab p.body.length cb] 27)).alloc (.cells (stmtV s x6 x7) 66):=⟨_,rfl⟩
 obtain⟨kp,hkp⟩:∃ kp,kp=w.heap.size:=⟨_,rfl⟩
 obtain⟨ks,hks⟩:∃ ks,ks=kp+1:=⟨_,rfl⟩
 have hb0:Below w.heap.size w W:=by rw [hW];exact alloc_two _ _ _
 have hP:PBox W kp p Va Ab vc cb:=by rw [hW,hkp];exact alloc_blk _ (heap_alloc_new w _)
 have hS:SB W ks s x6 x7:=by rw [hW,hks,hkp];exact alloc_at _ _ _
 have hpl:=hp.below hb0
 have hLl:(Al.usesOf s).length<=3:=by
  unfold Al.usesOf;rw [hg]
  simp only [List.length_append]
  (repeat' split)<;> simp
 have hcl:s.op=12/\g.d=true\/s.op=13/\g.d=true\/(1<=s.op/\s.op<=11/\g.d=true)\/(14<=s.op/\s.op<=16/\g.d=false):=by
  have h:s.op=1\/s.op=2\/s.op=3\/s.op=4\/s.op=5\/s.op=6\/s.op=7\/s.op=8\/s.op=9\/s.op=10\/s.op=11\/s.op=12\/s.op=13\/s.op=14\/s.op=15\/s.op=16:=by
   refine Decidable.byContradiction fun hn=>?_
   simp only [not_or] at hn
   rw [none_of hn] at hg
   cases hg
  rcases h with h|h|h|h|h|h|h|h|h|h|h|h|h|h|h|h<;> rw [h] at hg<;> cases hg<;> simp [h]
 have hbr:Al.breaksB p.vars s=(if s.op=12 then false else if s.op=13 then !secOf p s.d else if 1<=s.op/\s.op<=11 then (Al.usesOf s).any (secOf p) && !secOf p s.d else (Al.usesOf s).any (secOf p)):=rfl
 obtain⟨L,hL⟩:∃ L,L=Al.usesOf s:=⟨_,rfl⟩
 have hgG:hasG s.op=g:=by unfold hasG;rw [hg];rfl
 have HU:=fun w0=>ref_uses w0 s x6 x7
 have HW:=fun w0=>ref_writes w0 s x6 x7
 rw [hgG] at HW
 rw [<-hL] at hr hLl hbr
 simp only [<-hL] at HU
 rw [hbr]
 obtain⟨R,hR⟩:∃ R,R=(if s.op=12 then false else if s.op=13 then !secOf p s.d else if 1<=s.op/\s.op<=11 then L.any (secOf p) && !secOf p s.d else L.any (secOf p)):=⟨_,rfl⟩
 rw [<-hR]
 replace hR:=Lib.hid hR
 clear hbr hgG hg hL
 unfold stmtV at HU HW
 obtain⟨s0,s1,s2,s3,s4,s5,s6,s7⟩:=hS.cells
 have hkpl:=blk_lt hP
 have hksl:=blk_lt hS
 go_enter Tryz.func88,Tryz.ntmps88
 unfold stmtV progV
 go_wp2_with fail
 have hWu:W=(w.alloc (.cells #[.int .i64 p.q,.int .i64 p.n,.slice Va p.vars.length vc,.slice Ab p.body.length cb] 27)).alloc (.cells #[.int .i64 s.op,.int .i64 s.d,.int .i64 s.a,.int .i64 s.b,.int .i64 s.c,.int .i64 s.k,x6,x7] 66):=hW
 rw [<-hWu]
 simp only [<-hkp,<-hks]
 clear hW hWu
 replace hkp:=Lib.hid hkp
 replace hks:=Lib.hid hks
 go_wp2_with (first|(go_at_call 129;refine (HU _).mono ?_;rintro e w1 ⟨v,rfl,hown,hb1⟩;obtain⟨a,cap,rfl⟩:=own_slice hown))
 have B1:BI w w1 kp ks p Va Ab vc cb s x6 x7 a cap L:=⟨hb0.trans (lower_below hb1 hb0.size),below_blk hb1 hP hkpl,below_blk hb1 hS hksl,own_ints hown⟩
 replace B1:=Lib.hid B1
 clear s0 s1 s2 s3 s4 s5 s6 s7 hkpl hksl hP hS hb0 hb1 hown HU hpl
 go_loopg [6,7] (L.length+1) (fun gk v6 v7 w'=>∃ j:Nat,v7= .int .i64 j/\v6= .bool ((L.take j).any (secOf p))/\j+gk=L.length+1/\j<=L.length/\Hid (BI w w' kp ks p Va Ab vc cb s x6 x7 a cap L))
 case atStart=>exact⟨0,rfl,by simp,by omega,by omega,B1⟩
 case round=>
  obtain⟨j,rfl,hac,hj,hj2,HB⟩:=hrel
  have B:=show BI w wr kp ks p Va Ab vc cb s x6 x7 a cap L from HB
  clear HB B1
  subst hac
  by_cases hjl:j<L.length
  ·obtain⟨k1,rfl⟩:∃ k1,gk=k1+1:=⟨gk - 1,by omega⟩
   have hnx:(L.take (j+1)).any (secOf p)=((L.take j).any (secOf p) || secOf p L[j]):=by rw [List.take_succ_eq_append_getElem hjl,List.any_append];simp
   have hrj:=hr L[j] (List.getElem_mem hjl)
   obtain⟨ag,he,hcell⟩:=ints_get B.I hjl
   obtain⟨x,hx⟩:∃ x,x=L[j]:=⟨_,rfl⟩
   rw [<-hx] at hrj hcell hnx
   replace hx:=Lib.hid hx
   obtain⟨ad,hva,kk0,kk⟩:=at_T901 hp.v x hrj.1 hrj.2
   have kd:=cell_since B.below kk
   have hr0:=hrj.1
   have hr1:=hrj.2
   have t1:decide ((j:Int)<(L.length:Int))=true:=by simp;omega
   have t2:(0:Int)<=(j:Int):=by omega
   have t3:(j:Int)<(L.length:Int):=by omega
   obtain⟨p0,p1,p2,p3⟩:=B.P.cells
   have BN:=fun n=>Lib.hid (B.drewN n)
   have B0:=Lib.hid B
   subst he hva
   clear B kk kk0
   rcases Bool.eq_false_or_eq_true ((L.take j).any (secOf p)) with hA|hA
   ·rw [hA] at hnx ⊢
    clear hA
    go_wp2_with fail
    go_big_quiet (fail)
    go_wp2_with fail
    go_roundg k1
    case measure=>omega
    case rel=>exact⟨j+1,by simp,by rw [hnx];rfl,by omega,by omega,BN _⟩
   ·rw [hA] at hnx ⊢
    clear hA
    go_wp2_with fail
    go_big_quiet (fail)
    go_wp2_with fail
    go_roundg k1
    case measure=>omega
    case rel=>exact⟨j+1,by simp,by rw [hnx];rfl,by omega,by omega,BN _⟩
  ·have hje:j=L.length:=by omega
   have t1:decide ((j:Int)<(L.length:Int))=false:=by simp;omega
   have htk:L.take j=L:=by rw [hje,List.take_length]
   rw [htk]
   have hS:=B.S
   have hbw:=B.below
   have hP:=B.P
   obtain⟨s0,s1,s2,s3,s4,s5,s6,s7⟩:=hS.cells
   have HWr:=HW wr
   clear B htk HW
   obtain⟨acc,hacc⟩:∃ acc,acc=L.any (secOf p):=⟨_,rfl⟩
   rw [<-hacc]
   have hR':R=(if s.op=12 then false else if s.op=13 then !secOf p s.d else if 1<=s.op/\s.op<=11 then acc && !secOf p s.d else acc):=by rw [hacc];exact hR
   clear hacc hR
   rcases hcl with⟨h,hgd⟩|⟨h,hgd⟩|⟨h0,h1,hgd⟩|⟨h0,h1,hgd⟩
   ·simp only [hgd,if_true] at HWr
    rw [if_pos h] at hR'
    replace h:(s.op == 12)=true:=by rw [h];rfl
    clear hgd
    have HR':=Lib.hid hR'
    clear hR'
    go_wp2_with (first|(go_at_call 131;refine HWr.mono ?_;rintro e w2 ⟨rfl,hb2⟩;have P2:PBox w2 kp p Va Ab vc cb:=below_blk hb2 hP (blk_lt hP);have S2:SB w2 ks s x6 x7:=below_blk hb2 hS (blk_lt hS);obtain⟨p0,p1,p2,p3⟩:=P2.cells;clear s0 s1 s2 s3 s4 s5 s6 s7;obtain⟨s0,s1,s2,s3,s4,s5,s6,s7⟩:=S2.cells;have hb3:=hbw.trans (lower_below hb2 hbw.size)))
    exact bodyPost_ret (v:= .bool false) (by simp [results,Tryz.results88,go_sem]) rfl ⟨by rw [show R=_ from HR']<;> try rfl,hb3⟩
   ·simp only [hgd,if_true] at HWr
    rw [if_neg (by omega),if_pos h] at hR'
    obtain⟨hd0,hd1⟩:=hd hgd
    obtain⟨ad,rfl,kk0,kk⟩:=at_T901 hp.v s.d hd0 hd1
    have kd:=fun (w0:World) (hb:Below w.heap.size w w0)=>cell_since hb kk
    have z12:(s.op == 12)=false:=beq_false_of_ne (by omega)
    replace h:(s.op == 13)=true:=by rw [h];rfl
    clear hgd
    have HR':=Lib.hid hR'
    clear hR'
    go_wp2_with (first|(go_at_call 131;refine HWr.mono ?_;rintro e w2 ⟨rfl,hb2⟩;have P2:PBox w2 kp p (some ad) Ab vc cb:=below_blk hb2 hP (blk_lt hP);have S2:SB w2 ks s x6 x7:=below_blk hb2 hS (blk_lt hS);obtain⟨p0,p1,p2,p3⟩:=P2.cells;clear s0 s1 s2 s3 s4 s5 s6 s7;obtain⟨s0,s1,s2,s3,s4,s5,s6,s7⟩:=S2.cells;have hb3:=hbw.trans (lower_below hb2 hbw.size);have kd2:=kd w2 hb3))
    exact bodyPost_ret (v:= .bool (!(rd_T901 p.vars s.d).secret)) (by simp [results,Tryz.results88,go_sem]) rfl ⟨by rw [show R=_ from HR']<;> try rfl,hb3⟩
   ·simp only [hgd,if_true] at HWr
    rw [if_neg (by omega),if_neg (by omega),if_pos ⟨h0,h1⟩] at hR'
    obtain⟨hd0,hd1⟩:=hd hgd
    obtain⟨ad,rfl,kk0,kk⟩:=at_T901 hp.v s.d hd0 hd1
    have kd:=fun (w0:World) (hb:Below w.heap.size w w0)=>cell_since hb kk
    have z12:(s.op == 12)=false:=beq_false_of_ne (by omega)
    have z13:(s.op == 13)=false:=beq_false_of_ne (by omega)
    clear hgd
    cases acc
    ·have HR':=Lib.hid hR'
     clear hR'
     go_wp2_with (first|(go_at_call 131;refine HWr.mono ?_;rintro e w2 ⟨rfl,hb2⟩;have P2:PBox w2 kp p (some ad) Ab vc cb:=below_blk hb2 hP (blk_lt hP);have S2:SB w2 ks s x6 x7:=below_blk hb2 hS (blk_lt hS);obtain⟨p0,p1,p2,p3⟩:=P2.cells;clear s0 s1 s2 s3 s4 s5 s6 s7;obtain⟨s0,s1,s2,s3,s4,s5,s6,s7⟩:=S2.cells;have hb3:=hbw.trans (lower_below hb2 hbw.size);have kd2:=kd w2 hb3))
     exact bodyPost_ret (v:= .bool false) (by simp [results,Tryz.results88,go_sem]) rfl ⟨by rw [show R=_ from HR']<;> try rfl,hb3⟩
    ·have HR':=Lib.hid hR'
     clear hR'
     go_wp2_with (first|(go_at_call 131;refine HWr.mono ?_;rintro e w2 ⟨rfl,hb2⟩;have P2:PBox w2 kp p (some ad) Ab vc cb:=below_blk hb2 hP (blk_lt hP);have S2:SB w2 ks s x6 x7:=below_blk hb2 hS (blk_lt hS);obtain⟨p0,p1,p2,p3⟩:=P2.cells;clear s0 s1 s2 s3 s4 s5 s6 s7;obtain⟨s0,s1,s2,s3,s4,s5,s6,s7⟩:=S2.cells;have hb3:=hbw.trans (lower_below hb2 hbw.size);have kd2:=kd w2 hb3))
     exact bodyPost_ret (v:= .bool (!(rd_T901 p.vars s.d).secret)) (by simp [results,Tryz.results88,go_sem]) rfl ⟨by rw [show R=_ from HR']<;> try rfl,hb3⟩
   ·simp only [hgd,if_false,Bool.false_eq_true] at HWr
    rw [if_neg (by omega),if_neg (by omega),if_neg (by omega)] at hR'
    have z12:(s.op == 12)=false:=beq_false_of_ne (by omega)
    have z13:(s.op == 13)=false:=beq_false_of_ne (by omega)
    clear hgd
    have HR':=Lib.hid hR'
    clear hR'
    go_wp2_with (first|(go_at_call 131;refine HWr.mono ?_;rintro e w2 ⟨rfl,hb2⟩;have P2:PBox w2 kp p Va Ab vc cb:=below_blk hb2 hP (blk_lt hP);have S2:SB w2 ks s x6 x7:=below_blk hb2 hS (blk_lt hS);obtain⟨p0,p1,p2,p3⟩:=P2.cells;clear s0 s1 s2 s3 s4 s5 s6 s7;obtain⟨s0,s1,s2,s3,s4,s5,s6,s7⟩:=S2.cells;have hb3:=hbw.trans (lower_below hb2 hbw.size)))
    exact bodyPost_ret (v:= .bool acc) (by simp [results,Tryz.results88,go_sem]) rfl ⟨by rw [show R=_ from HR']<;> try rfl,hb3⟩
end Go.Proofs.YtkplfaionpplaaaGreatDoor
