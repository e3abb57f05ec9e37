/- Part 14: B28, B29, B30, B31, P29, B32, B33, B34, B35, B36, B37, B38, B39, P30, B40. -/
import Derived.Test.YtkplfaionpplaaaGreatDoorK13
set_option maxRecDepth 100000
set_option maxHeartbeats 6400000
set_option linter.unusedVariables false
set_option linter.unusedSimpArgs false
namespace Go.Proofs.YtkplfaionpplaaaGreatDoor
open Go.RowKit
def SB (w:World)(k:Nat)(s:Al.Stmt)(x6 x7:Value):Prop:=w.heap[k]?=some (.cells (stmtV s x6 x7) 66 (0,0))
theorem SB.below {w w':World}{k:Nat}{s:Al.Stmt}{x6 x7:Value}(h:SB w k s x6 x7){B:Nat}(hb:Below B w w')(hk:k<B):SB w' k s x6 x7:=below_blk hb h hk
theorem SB.cells {w:World}{k:Nat}{s:Al.Stmt}{x6 x7:Value}(h:SB w k s x6 x7):w.cell? ⟨k,0,none⟩=some (.int .i64 s.op)/\w.cell? ⟨k,1,none⟩=some (.int .i64 s.d)/\w.cell? ⟨k,2,none⟩=some (.int .i64 s.a)/\w.cell? ⟨k,3,none⟩=some (.int .i64 s.b)/\w.cell? ⟨k,4,none⟩=some (.int .i64 s.c)/\w.cell? ⟨k,5,none⟩=some (.int .i64 s.k)/\w.cell? ⟨k,6,none⟩=some x6/\w.cell? ⟨k,7,none⟩=some x7:=
 ⟨(cell_blk h _).trans rfl,(cell_blk h _).trans rfl,(cell_blk h _).trans rfl,(cell_blk h _).trans rfl,(cell_blk h _).trans rfl,(cell_blk h _).trans rfl,(cell_blk h _).trans rfl,(cell_blk h _).trans rfl⟩
theorem lower_below {B B':Nat}{w w':World}(h:Below B' w w')(hB:B<=B'):Below B w w':=⟨h.os,h.tape,h.output,h.size,fun k hk=>h.block k (by omega)⟩
theorem src_writes (w:World)(s:Al.Stmt)(x6 x7:Value){g:Al.Has}(hg:Al.hasOf s.op=some g):Calls Tryz.prog 144 #[.agg (stmtV s x6 x7)] w fun e w'=>e= .returned (.tuple #[.int .i64 (if g.d then s.d else 0),.bool g.d])/\Below w.heap.size w w':=by
 obtain⟨W,hW⟩:∃ W,W=w.alloc (.cells (stmtV s x6 x7) 66):=⟨_,rfl⟩
 obtain⟨ks,hks⟩:∃ ks,ks=w.heap.size:=⟨_,rfl⟩
 have hb0:Below w.heap.size w W:=by rw [hW];exact (Below.refl _ _).alloc (Nat.le_refl _) _
 have h0:SB W ks s x6 x7:=by rw [hW,hks];exact heap_alloc_new w _
 have hkl:ks<W.heap.size:=blk_lt h0
 go_enter Tryz.func144,Tryz.ntmps144
 unfold stmtV
 go_wp2_with fail
 have hWu:W=w.alloc (.cells #[.int .i64 s.op,.int .i64 s.d,.int .i64 s.a,.int .i64 s.b,.int .i64 s.c,.int .i64 s.k,x6,x7] 66):=hW
 rw [<-hWu]
 simp only [<-hks]
 replace hks:=Lib.hid hks
 clear hW hWu
 have HF:=src_of W s.op hg
 unfold formV at HF
 obtain⟨gd,ga,gb,gc,gk,gB,gO⟩:=g
 dsimp only at HF ⊢
 cases gd
 all_goals
  go_wp2_with (first|(go_at_call 142;refine HF.mono ?_;rintro e w1 ⟨word,rfl,hb1⟩;obtain⟨s0,s1,s2,s3,s4,s5,s6,s7⟩:=(h0.below hb1 hkl).cells;have v1:∀ o,(w1.alloc o).cell? _=_:=fun o=>alloc_cell o s1))
 ·exact bodyPost_ret (v:= .tuple #[.int .i64 0,.bool false]) (by simp [results,Tryz.results144,go_sem]) rfl ⟨rfl,(hb0.trans (lower_below hb1 hb0.size)).alloc (Nat.le_trans hb0.size hb1.size) _⟩
 ·exact bodyPost_ret (v:= .tuple #[.int .i64 s.d,.bool true]) (by simp [results,Tryz.results144,go_sem]) rfl ⟨rfl,(hb0.trans (lower_below hb1 hb0.size)).alloc (Nat.le_trans hb0.size hb1.size) _⟩
def usesN (g:Al.Has)(s:Al.Stmt)(j:Nat):List Int:=(if g.a && decide (0<j) then [s.a] else [])++((if g.b && decide (1<j) then [s.b] else [])++(if g.c && decide (2<j) then [s.c] else []))
structure UI (w w':World)(ks kb:Nat)(s:Al.Stmt)(x6 x7:Value)(g:Al.Has)(j:Nat)(v:Value):Prop where
 own:w'.ownsRow w.heap.size 3 1 v (usesN g s j).length (intsV (usesN g s j))
 sb:SB w' ks s x6 x7
 kb:w'.heap[kb]?=some (.cells #[.bool g.a,.bool g.b,.bool g.c] 4 (0,0))
 below:Below w.heap.size w w'
theorem below_grown {B:Nat}{w W W':World}{row:Option Nat}(hb:Below B w W)(hg:W.grownBy W' row)(hr:∀ k,row=some k->B<=k)(hB:B<=W.heap.size):Below B w W':=
 ⟨hg.os.trans hb.os,hg.tape.trans hb.tape,hg.output.trans hb.output,Nat.le_trans hb.size hg.size,fun k hk=>by
  rw [hg.block k (Nat.lt_of_lt_of_le hk hB) (fun h=>by have:=hr k h.symm;omega)];exact hb.block k hk⟩
theorem src_uses (w:World)(s:Al.Stmt)(x6 x7:Value){g:Al.Has}(hg:Al.hasOf s.op=some g):Calls Tryz.prog 143 #[.agg (stmtV s x6 x7)] w fun e w'=>∃ v,e= .returned v/\w'.ownsRow w.heap.size 3 1 v (Al.usesOf s).length (intsV (Al.usesOf s))/\Below w.heap.size w w':=by
 have hfin:usesN g s 3=Al.usesOf s:=by unfold usesN Al.usesOf;rw [hg];simp
 rw [<-hfin]
 obtain⟨j0,hj0,jz0,jz1,jz2⟩:=info_parts Tryz.infoInt
 obtain⟨W,hW⟩:∃ W,W=w.alloc (.cells (stmtV s x6 x7) 66):=⟨_,rfl⟩
 obtain⟨ks,hks⟩:∃ ks,ks=w.heap.size:=⟨_,rfl⟩
 have hb0:Below w.heap.size w W:=by rw [hW];exact (Below.refl _ _).alloc (Nat.le_refl _) _
 have h0:SB W ks s x6 x7:=by rw [hW,hks];exact heap_alloc_new w _
 have hkl:ks<W.heap.size:=blk_lt h0
 go_enter Tryz.func143,Tryz.ntmps143
 unfold stmtV
 go_wp2_with fail
 have hWu:W=w.alloc (.cells #[.int .i64 s.op,.int .i64 s.d,.int .i64 s.a,.int .i64 s.b,.int .i64 s.c,.int .i64 s.k,x6,x7] 66):=hW
 rw [<-hWu]
 simp only [<-hks]
 replace hks:=Lib.hid hks
 replace hfin:=Lib.hid hfin
 clear hW hWu
 have HF:=src_of W s.op hg
 unfold formV at HF
 go_wp2_with (first|(go_at_call 142;refine HF.mono ?_;rintro e w1 ⟨word,rfl,hb1⟩;have h1:=h0.below hb1 hkl))
 obtain⟨W3,hW3⟩:∃ W3,W3=(w1.alloc (.cells #[.string word,.bool g.d,.bool g.a,.bool g.b,.bool g.c,.bool g.k,.bool g.body,.bool g.other] 192)).alloc (.cells #[.bool g.a,.bool g.b,.bool g.c] 4):=⟨_,rfl⟩
 obtain⟨kb,hkb⟩:∃ kb,kb=w1.heap.size+1:=⟨_,rfl⟩
 have hbw1:Below w.heap.size w w1:=hb0.trans (lower_below hb1 hb0.size)
 have U0:UI w W3 ks kb s x6 x7 g 0 (.slice none 0 0):=by
  rw [hW3,hkb]
  refine⟨by simpa [usesN,intsV] using World.ownsRow_nil _ _ _ _,alloc_blk _ (alloc_blk _ h1),alloc_at _ _ _,(hbw1.alloc hbw1.size _).alloc (by simp;have:=hbw1.size;omega) _⟩
 rw [<-hW3]
 simp only [<-hkb]
 replace U0:=Lib.hid U0
 clear hW3 hkb hb0 h0 hkl HF hb1 h1 hbw1
 go_loopg [5,6,7,22] 4 (fun gk v5 v6 v7 v22 w'=>∃ j:Nat,v22= .int .i64 j/\j+gk=4/\j<=3/\Hid (UI w w' ks kb s x6 x7 g j v5))
 case atStart=>exact⟨0,rfl,by omega,by omega,U0⟩
 case round=>
  obtain⟨j,rfl,hj,hj2,HU⟩:=hrel
  have U:=show UI w wr ks kb s x6 x7 g j u5 from HU
  clear HU U0
  have K:=U.kb
  obtain⟨s0,s1,s2,s3,s4,s5,s6,s7⟩:=U.sb.cells
  clear s0 s1 s5 s6 s7
  have hj4:j=0\/j=1\/j=2\/j=3:=by omega
  rcases hj4 with rfl|rfl|rfl|rfl
  ·obtain⟨k1,rfl⟩:∃ k1,gk=k1+1:=⟨gk - 1,by omega⟩
   rcases (Bool.eq_false_or_eq_true g.a).symm with hgj|hgj
   ·rw [hgj] at K
    have q:wr.cell? ⟨kb,0,none⟩=some (.bool false):=(cell_blk K _).trans rfl
    have hn:usesN g s 1=usesN g s 0:=by simp [usesN,hgj]
    have U2:UI w wr ks kb s x6 x7 g 1 u5:=⟨by rw [hn];exact U.own,U.sb,U.kb,U.below⟩
    replace U2:=Lib.hid U2
    clear U K hn hgj s2 s3 s4
    go_wp2_with fail
    go_roundg k1
    case measure=>omega
    case rel=>exact⟨1,rfl,by omega,by omega,U2⟩
   ·rw [hgj] at K
    have q:wr.cell? ⟨kb,0,none⟩=some (.bool true):=(cell_blk K _).trans rfl
    have hn:usesN g s 1=usesN g s 0++[s.a]:=by simp [usesN,hgj]
    replace hn:=Lib.hid hn
    clear hgj
    have own1:((wr.alloc (.cells #[.int .i64 s.a,.int .i64 s.b,.int .i64 s.c] 3)).alloc (.cells #[.int .i64 s.a] 3)).ownsRow w.heap.size 3 1 u5 (usesN g s 0).length (intsV (usesN g s 0)):=(U.own.alloc _).alloc _
    have len3:(usesN g s 0).length<=3:=by unfold usesN;simp only [List.length_append];(repeat' split)<;> simp
    have sb1:SB ((wr.alloc (.cells #[.int .i64 s.a,.int .i64 s.b,.int .i64 s.c] 3)).alloc (.cells #[.int .i64 s.a] 3)) ks s x6 x7:=alloc_blk _ (alloc_blk _ U.sb)
    have kb1:=alloc_blk (.cells #[.int .i64 s.a] 3) (alloc_blk (.cells #[.int .i64 s.a,.int .i64 s.b,.int .i64 s.c] 3) U.kb)
    have bl1:Below w.heap.size w ((wr.alloc (.cells #[.int .i64 s.a,.int .i64 s.b,.int .i64 s.c] 3)).alloc (.cells #[.int .i64 s.a] 3)):=(U.below.alloc U.below.size _).alloc (by simp;have:=U.below.size;omega) _
    have hsz:w.heap.size<=wr.heap.size:=U.below.size
    have nb:=alloc_at wr (.cells #[.int .i64 s.a,.int .i64 s.b,.int .i64 s.c] 3) (.cells #[.int .i64 s.a] 3)
    go_wp2_with (first|(at_builtin;refine wpList_append_own_at _ rfl (.tmp 28) (.tmp 39) 86 rfl w.heap.size 3 j0 _ 1 8 Tryz.underlying86 hj0 jz0 jz1 jz2 rfl (by omega) u5 _ _ rfl own1 ⟨wr.heap.size+1,0,none⟩ 1 1 [.int .i64 s.a] rfl rfl (World.news_of_block nb) (by simp [Value.oneCell']) (by unfold maxLen;omega) (by omega) (by simp;omega) ?_;intro v2 w2 hown2 hgrow hnil hat))
    have U2:UI w w2 ks kb s x6 x7 g 1 v2:=by
     refine⟨?_,?_,?_,below_grown bl1 hgrow (fun k hk=>(own1.lt k hk).1) bl1.size⟩
     ·rw [show usesN g s _=_ from hn];simpa [intsV] using hown2
     ·exact grow_blk hgrow sb1 (own_ne_blk own1 sb1 (by decide))
     ·exact grow_blk hgrow kb1 (own_ne_blk own1 kb1 (by decide))
    replace U2:=Lib.hid U2
    clear U K hn s2 s3 s4 hown2 hgrow own1 sb1 kb1 bl1 nb hnil hat
    go_wp2_with fail
    go_roundg k1
    case measure=>omega
    case rel=>exact⟨1,rfl,by omega,by omega,U2⟩
  ·obtain⟨k1,rfl⟩:∃ k1,gk=k1+1:=⟨gk - 1,by omega⟩
   rcases (Bool.eq_false_or_eq_true g.b).symm with hgj|hgj
   ·rw [hgj] at K
    have q:wr.cell? ⟨kb,1,none⟩=some (.bool false):=(cell_blk K _).trans rfl
    have hn:usesN g s 2=usesN g s 1:=by simp [usesN,hgj]
    have U2:UI w wr ks kb s x6 x7 g 2 u5:=⟨by rw [hn];exact U.own,U.sb,U.kb,U.below⟩
    replace U2:=Lib.hid U2
    clear U K hn hgj s2 s3 s4
    go_wp2_with fail
    go_roundg k1
    case measure=>omega
    case rel=>exact⟨2,rfl,by omega,by omega,U2⟩
   ·rw [hgj] at K
    have q:wr.cell? ⟨kb,1,none⟩=some (.bool true):=(cell_blk K _).trans rfl
    have hn:usesN g s 2=usesN g s 1++[s.b]:=by simp [usesN,hgj]
    replace hn:=Lib.hid hn
    clear hgj
    have own1:((wr.alloc (.cells #[.int .i64 s.a,.int .i64 s.b,.int .i64 s.c] 3)).alloc (.cells #[.int .i64 s.b] 3)).ownsRow w.heap.size 3 1 u5 (usesN g s 1).length (intsV (usesN g s 1)):=(U.own.alloc _).alloc _
    have len3:(usesN g s 1).length<=3:=by unfold usesN;simp only [List.length_append];(repeat' split)<;> simp
    have sb1:SB ((wr.alloc (.cells #[.int .i64 s.a,.int .i64 s.b,.int .i64 s.c] 3)).alloc (.cells #[.int .i64 s.b] 3)) ks s x6 x7:=alloc_blk _ (alloc_blk _ U.sb)
    have kb1:=alloc_blk (.cells #[.int .i64 s.b] 3) (alloc_blk (.cells #[.int .i64 s.a,.int .i64 s.b,.int .i64 s.c] 3) U.kb)
    have bl1:Below w.heap.size w ((wr.alloc (.cells #[.int .i64 s.a,.int .i64 s.b,.int .i64 s.c] 3)).alloc (.cells #[.int .i64 s.b] 3)):=(U.below.alloc U.below.size _).alloc (by simp;have:=U.below.size;omega) _
    have hsz:w.heap.size<=wr.heap.size:=U.below.size
    have nb:=alloc_at wr (.cells #[.int .i64 s.a,.int .i64 s.b,.int .i64 s.c] 3) (.cells #[.int .i64 s.b] 3)
    go_wp2_with (first|(at_builtin;refine wpList_append_own_at _ rfl (.tmp 28) (.tmp 39) 86 rfl w.heap.size 3 j0 _ 1 8 Tryz.underlying86 hj0 jz0 jz1 jz2 rfl (by omega) u5 _ _ rfl own1 ⟨wr.heap.size+1,0,none⟩ 1 1 [.int .i64 s.b] rfl rfl (World.news_of_block nb) (by simp [Value.oneCell']) (by unfold maxLen;omega) (by omega) (by simp;omega) ?_;intro v2 w2 hown2 hgrow hnil hat))
    have U2:UI w w2 ks kb s x6 x7 g 2 v2:=by
     refine⟨?_,?_,?_,below_grown bl1 hgrow (fun k hk=>(own1.lt k hk).1) bl1.size⟩
     ·rw [show usesN g s _=_ from hn];simpa [intsV] using hown2
     ·exact grow_blk hgrow sb1 (own_ne_blk own1 sb1 (by decide))
     ·exact grow_blk hgrow kb1 (own_ne_blk own1 kb1 (by decide))
    replace U2:=Lib.hid U2
    clear U K hn s2 s3 s4 hown2 hgrow own1 sb1 kb1 bl1 nb hnil hat
    go_wp2_with fail
    go_roundg k1
    case measure=>omega
    case rel=>exact⟨2,rfl,by omega,by omega,U2⟩
  ·obtain⟨k1,rfl⟩:∃ k1,gk=k1+1:=⟨gk - 1,by omega⟩
   rcases (Bool.eq_false_or_eq_true g.c).symm with hgj|hgj
   ·rw [hgj] at K
    have q:wr.cell? ⟨kb,2,none⟩=some (.bool false):=(cell_blk K _).trans rfl
    have hn:usesN g s 3=usesN g s 2:=by simp [usesN,hgj]
    have U2:UI w wr ks kb s x6 x7 g 3 u5:=⟨by rw [hn];exact U.own,U.sb,U.kb,U.below⟩
    replace U2:=Lib.hid U2
    clear U K hn hgj s2 s3 s4
    go_wp2_with fail
    go_roundg k1
    case measure=>omega
    case rel=>exact⟨3,rfl,by omega,by omega,U2⟩
   ·rw [hgj] at K
    have q:wr.cell? ⟨kb,2,none⟩=some (.bool true):=(cell_blk K _).trans rfl
    have hn:usesN g s 3=usesN g s 2++[s.c]:=by simp [usesN,hgj]
    replace hn:=Lib.hid hn
    clear hgj
    have own1:((wr.alloc (.cells #[.int .i64 s.a,.int .i64 s.b,.int .i64 s.c] 3)).alloc (.cells #[.int .i64 s.c] 3)).ownsRow w.heap.size 3 1 u5 (usesN g s 2).length (intsV (usesN g s 2)):=(U.own.alloc _).alloc _
    have len3:(usesN g s 2).length<=3:=by unfold usesN;simp only [List.length_append];(repeat' split)<;> simp
    have sb1:SB ((wr.alloc (.cells #[.int .i64 s.a,.int .i64 s.b,.int .i64 s.c] 3)).alloc (.cells #[.int .i64 s.c] 3)) ks s x6 x7:=alloc_blk _ (alloc_blk _ U.sb)
    have kb1:=alloc_blk (.cells #[.int .i64 s.c] 3) (alloc_blk (.cells #[.int .i64 s.a,.int .i64 s.b,.int .i64 s.c] 3) U.kb)
    have bl1:Below w.heap.size w ((wr.alloc (.cells #[.int .i64 s.a,.int .i64 s.b,.int .i64 s.c] 3)).alloc (.cells #[.int .i64 s.c] 3)):=(U.below.alloc U.below.size _).alloc (by simp;have:=U.below.size;omega) _
    have hsz:w.heap.size<=wr.heap.size:=U.below.size
    have nb:=alloc_at wr (.cells #[.int .i64 s.a,.int .i64 s.b,.int .i64 s.c] 3) (.cells #[.int .i64 s.c] 3)
    go_wp2_with (first|(at_builtin;refine wpList_append_own_at _ rfl (.tmp 28) (.tmp 39) 86 rfl w.heap.size 3 j0 _ 1 8 Tryz.underlying86 hj0 jz0 jz1 jz2 rfl (by omega) u5 _ _ rfl own1 ⟨wr.heap.size+1,0,none⟩ 1 1 [.int .i64 s.c] rfl rfl (World.news_of_block nb) (by simp [Value.oneCell']) (by unfold maxLen;omega) (by omega) (by simp;omega) ?_;intro v2 w2 hown2 hgrow hnil hat))
    have U2:UI w w2 ks kb s x6 x7 g 3 v2:=by
     refine⟨?_,?_,?_,below_grown bl1 hgrow (fun k hk=>(own1.lt k hk).1) bl1.size⟩
     ·rw [show usesN g s _=_ from hn];simpa [intsV] using hown2
     ·exact grow_blk hgrow sb1 (own_ne_blk own1 sb1 (by decide))
     ·exact grow_blk hgrow kb1 (own_ne_blk own1 kb1 (by decide))
    replace U2:=Lib.hid U2
    clear U K hn s2 s3 s4 hown2 hgrow own1 sb1 kb1 bl1 nb hnil hat
    go_wp2_with fail
    go_roundg k1
    case measure=>omega
    case rel=>exact⟨3,rfl,by omega,by omega,U2⟩
  ·go_wp2_with fail
   refine bodyPost_ret (v:=u5) (by simp [results,Tryz.results143,go_sem]) rfl ⟨u5,rfl,U.own,U.below⟩
structure ShapeOk (g:Al.Has)(s:Al.Stmt):Prop where
 d:g.d=false->s.d=0
 a:g.a=false->s.a=0
 b:g.b=false->s.b=0
 c:g.c=false->s.c=0
 k:g.k=false->s.k=0
 body:g.body=false->s.body=[]
 other:g.other=false->s.els=[]
structure SI (w w':World)(ks kf kb:Nat)(s:Al.Stmt)(x6 x7:Value)(word:ByteArray)(g:Al.Has):Prop where
 sb:SB w' ks s x6 x7
 fb:w'.heap[kf]?=some (.cells #[.string word,.bool g.d,.bool g.a,.bool g.b,.bool g.c,.bool g.k,.bool g.body,.bool g.other] 192 (0,0))
 kb:w'.heap[kb]?=some (.cells #[.bool g.d,.bool g.a,.bool g.b,.bool g.c,.bool g.k] 4 (0,0))
 below:Below w.heap.size w w'
theorem SI.alloc {w w':World}{ks kf kb:Nat}{s:Al.Stmt}{x6 x7:Value}{word:ByteArray}{g:Al.Has}(h:SI w w' ks kf kb s x6 x7 word g)(o:Obj):SI w (w'.alloc o) ks kf kb s x6 x7 word g:=
 ⟨alloc_blk _ h.sb,alloc_blk _ h.fb,alloc_blk _ h.kb,h.below.alloc h.below.size _⟩
theorem alloc_three (w:World)(o1 o2 o3:Obj):(((w.alloc o1).alloc o2).alloc o3).heap[w.heap.size+2]?=some o3:=by
 have:=heap_alloc_new ((w.alloc o1).alloc o2) o3
 simpa using this
theorem src_shape (w:World)(s:Al.Stmt){A6 A7:Option Addr}{c6 c7:Nat}{g:Al.Has}(word:ByteArray)(h:ShapeOk g s):Calls Tryz.prog 145 #[.agg (stmtV s (.slice A6 s.body.length c6) (.slice A7 s.els.length c7)),formV (.string word) g] w fun e w'=>e= .returned (.bool true)/\Below w.heap.size w w':=by
 obtain⟨x6,hx6⟩:∃ x6,x6=Value.slice A6 s.body.length c6:=⟨_,rfl⟩
 obtain⟨x7,hx7⟩:∃ x7,x7=Value.slice A7 s.els.length c7:=⟨_,rfl⟩
 rw [<-hx6,<-hx7]
 replace hx6:=Lib.hid hx6
 replace hx7:=Lib.hid hx7
 obtain⟨W3,hW3⟩:∃ W3,W3=((w.alloc (.cells (stmtV s x6 x7) 66)).alloc (.cells #[.string word,.bool g.d,.bool g.a,.bool g.b,.bool g.c,.bool g.k,.bool g.body,.bool g.other] 192)).alloc (.cells #[.bool g.d,.bool g.a,.bool g.b,.bool g.c,.bool g.k] 4):=⟨_,rfl⟩
 obtain⟨ks,hks⟩:∃ ks,ks=w.heap.size:=⟨_,rfl⟩
 obtain⟨kf,hkf⟩:∃ kf,kf=ks+1:=⟨_,rfl⟩
 obtain⟨kb,hkb⟩:∃ kb,kb=kf+1:=⟨_,rfl⟩
 have U0:SI w W3 ks kf kb s x6 x7 word g:=by
  rw [hW3,hkb,hkf,hks]
  exact⟨alloc_blk _ (alloc_blk _ (heap_alloc_new w _)),alloc_blk _ (alloc_at _ _ _),alloc_three _ _ _ _,(alloc_two w _ _).alloc (by simp;omega) _⟩
 go_enter Tryz.func145,Tryz.ntmps145
 unfold stmtV formV
 go_wp2_with fail
 have hWu:W3=((w.alloc (.cells #[.int .i64 s.op,.int .i64 s.d,.int .i64 s.a,.int .i64 s.b,.int .i64 s.c,.int .i64 s.k,x6,x7] 66)).alloc (.cells #[.string word,.bool g.d,.bool g.a,.bool g.b,.bool g.c,.bool g.k,.bool g.body,.bool g.other] 192)).alloc (.cells #[.bool g.d,.bool g.a,.bool g.b,.bool g.c,.bool g.k] 4):=hW3
 rw [<-hWu]
 simp only [<-hks,<-hkf,<-hkb]
 replace U0:=Lib.hid U0
 clear hWu hW3 hks hkf hkb
 go_loopg [5,6,19] 6 (fun gk v5 v6 v19 w'=>∃ j:Nat,v19= .int .i64 j/\j+gk=6/\j<=5/\Hid (SI w w' ks kf kb s x6 x7 word g))
 case atStart=>exact⟨0,rfl,by omega,by omega,U0⟩
 case round=>
  obtain⟨j,rfl,hj,hj2,HU⟩:=hrel
  have U:=show SI w wr ks kf kb s x6 x7 word g from HU
  clear HU U0
  have K:=U.kb
  obtain⟨s0,s1,s2,s3,s4,s5,s6,s7⟩:=U.sb.cells
  have F:=U.fb
  clear s0
  have hj4:j=0\/j=1\/j=2\/j=3\/j=4\/j=5:=by omega
  rcases hj4 with rfl|rfl|rfl|rfl|rfl|rfl
  ·obtain⟨k1,rfl⟩:∃ k1,gk=k1+1:=⟨gk - 1,by omega⟩
   rcases (Bool.eq_false_or_eq_true g.d).symm with hgj|hgj
   ·rw [hgj] at K
    have q:wr.cell? ⟨kb,0,none⟩=some (.bool false):=(cell_blk K _).trans rfl
    have hz:s.d=0:=h.d hgj
    have U2:=fun o=>Lib.hid (U.alloc o)
    clear U K hgj
    go_wp2_with fail
    go_roundg k1
    case measure=>omega
    case rel=>exact⟨1,by simp,by omega,by omega,U2 _⟩
   ·rw [hgj] at K
    have q:wr.cell? ⟨kb,0,none⟩=some (.bool true):=(cell_blk K _).trans rfl
    replace U:=Lib.hid U
    clear K hgj
    go_wp2_with fail
    go_roundg k1
    case measure=>omega
    case rel=>exact⟨1,by simp,by omega,by omega,U⟩
  ·obtain⟨k1,rfl⟩:∃ k1,gk=k1+1:=⟨gk - 1,by omega⟩
   rcases (Bool.eq_false_or_eq_true g.a).symm with hgj|hgj
   ·rw [hgj] at K
    have q:wr.cell? ⟨kb,1,none⟩=some (.bool false):=(cell_blk K _).trans rfl
    have hz:s.a=0:=h.a hgj
    have U2:=fun o=>Lib.hid (U.alloc o)
    clear U K hgj
    go_wp2_with fail
    go_roundg k1
    case measure=>omega
    case rel=>exact⟨2,by simp,by omega,by omega,U2 _⟩
   ·rw [hgj] at K
    have q:wr.cell? ⟨kb,1,none⟩=some (.bool true):=(cell_blk K _).trans rfl
    replace U:=Lib.hid U
    clear K hgj
    go_wp2_with fail
    go_roundg k1
    case measure=>omega
    case rel=>exact⟨2,by simp,by omega,by omega,U⟩
  ·obtain⟨k1,rfl⟩:∃ k1,gk=k1+1:=⟨gk - 1,by omega⟩
   rcases (Bool.eq_false_or_eq_true g.b).symm with hgj|hgj
   ·rw [hgj] at K
    have q:wr.cell? ⟨kb,2,none⟩=some (.bool false):=(cell_blk K _).trans rfl
    have hz:s.b=0:=h.b hgj
    have U2:=fun o=>Lib.hid (U.alloc o)
    clear U K hgj
    go_wp2_with fail
    go_roundg k1
    case measure=>omega
    case rel=>exact⟨3,by simp,by omega,by omega,U2 _⟩
   ·rw [hgj] at K
    have q:wr.cell? ⟨kb,2,none⟩=some (.bool true):=(cell_blk K _).trans rfl
    replace U:=Lib.hid U
    clear K hgj
    go_wp2_with fail
    go_roundg k1
    case measure=>omega
    case rel=>exact⟨3,by simp,by omega,by omega,U⟩
  ·obtain⟨k1,rfl⟩:∃ k1,gk=k1+1:=⟨gk - 1,by omega⟩
   rcases (Bool.eq_false_or_eq_true g.c).symm with hgj|hgj
   ·rw [hgj] at K
    have q:wr.cell? ⟨kb,3,none⟩=some (.bool false):=(cell_blk K _).trans rfl
    have hz:s.c=0:=h.c hgj
    have U2:=fun o=>Lib.hid (U.alloc o)
    clear U K hgj
    go_wp2_with fail
    go_roundg k1
    case measure=>omega
    case rel=>exact⟨4,by simp,by omega,by omega,U2 _⟩
   ·rw [hgj] at K
    have q:wr.cell? ⟨kb,3,none⟩=some (.bool true):=(cell_blk K _).trans rfl
    replace U:=Lib.hid U
    clear K hgj
    go_wp2_with fail
    go_roundg k1
    case measure=>omega
    case rel=>exact⟨4,by simp,by omega,by omega,U⟩
  ·obtain⟨k1,rfl⟩:∃ k1,gk=k1+1:=⟨gk - 1,by omega⟩
   rcases (Bool.eq_false_or_eq_true g.k).symm with hgj|hgj
   ·rw [hgj] at K
    have q:wr.cell? ⟨kb,4,none⟩=some (.bool false):=(cell_blk K _).trans rfl
    have hz:s.k=0:=h.k hgj
    have U2:=fun o=>Lib.hid (U.alloc o)
    clear U K hgj
    go_wp2_with fail
    go_roundg k1
    case measure=>omega
    case rel=>exact⟨5,by simp,by omega,by omega,U2 _⟩
   ·rw [hgj] at K
    have q:wr.cell? ⟨kb,4,none⟩=some (.bool true):=(cell_blk K _).trans rfl
    replace U:=Lib.hid U
    clear K hgj
    go_wp2_with fail
    go_roundg k1
    case measure=>omega
    case rel=>exact⟨5,by simp,by omega,by omega,U⟩
  ·clear K
   have hB:=h.body
   have hO:=h.other
   rcases (Bool.eq_false_or_eq_true g.body).symm with gB|gB<;> rcases (Bool.eq_false_or_eq_true g.other).symm with gO|gO
   ·rw [gB,gO] at F
    have f6:wr.cell? ⟨kf,6,none⟩=some (.bool false):=(cell_blk F _).trans rfl
    have f7:wr.cell? ⟨kf,7,none⟩=some (.bool false):=(cell_blk F _).trans rfl
    have z6:wr.cell? ⟨ks,6,none⟩=some (.slice A6 s.body.length c6):=s6.trans (congrArg some (show x6=_ from hx6))
    have z7:wr.cell? ⟨ks,7,none⟩=some (.slice A7 s.els.length c7):=s7.trans (congrArg some (show x7=_ from hx7))
    have e6:=hB gB
    rw [e6] at z6
    have e7:=hO gO
    rw [e7] at z7
    have bl:=U.below
    clear F gB gO hB hO s6 s7 U
    go_wp2_with fail
    exact bodyPost_ret (v:= .bool true) (by simp [results,Tryz.results145,go_sem]) rfl ⟨rfl,bl⟩
   ·rw [gB,gO] at F
    have f6:wr.cell? ⟨kf,6,none⟩=some (.bool false):=(cell_blk F _).trans rfl
    have f7:wr.cell? ⟨kf,7,none⟩=some (.bool true):=(cell_blk F _).trans rfl
    have z6:wr.cell? ⟨ks,6,none⟩=some (.slice A6 s.body.length c6):=s6.trans (congrArg some (show x6=_ from hx6))
    have z7:wr.cell? ⟨ks,7,none⟩=some (.slice A7 s.els.length c7):=s7.trans (congrArg some (show x7=_ from hx7))
    have e6:=hB gB
    rw [e6] at z6
    have bl:=U.below
    clear F gB gO hB hO s6 s7 U
    go_wp2_with fail
    exact bodyPost_ret (v:= .bool true) (by simp [results,Tryz.results145,go_sem]) rfl ⟨rfl,bl⟩
   ·rw [gB,gO] at F
    have f6:wr.cell? ⟨kf,6,none⟩=some (.bool true):=(cell_blk F _).trans rfl
    have f7:wr.cell? ⟨kf,7,none⟩=some (.bool false):=(cell_blk F _).trans rfl
    have z6:wr.cell? ⟨ks,6,none⟩=some (.slice A6 s.body.length c6):=s6.trans (congrArg some (show x6=_ from hx6))
    have z7:wr.cell? ⟨ks,7,none⟩=some (.slice A7 s.els.length c7):=s7.trans (congrArg some (show x7=_ from hx7))
    have e7:=hO gO
    rw [e7] at z7
    have bl:=U.below
    clear F gB gO hB hO s6 s7 U
    go_wp2_with fail
    exact bodyPost_ret (v:= .bool true) (by simp [results,Tryz.results145,go_sem]) rfl ⟨rfl,bl⟩
   ·rw [gB,gO] at F
    have f6:wr.cell? ⟨kf,6,none⟩=some (.bool true):=(cell_blk F _).trans rfl
    have f7:wr.cell? ⟨kf,7,none⟩=some (.bool true):=(cell_blk F _).trans rfl
    have z6:wr.cell? ⟨ks,6,none⟩=some (.slice A6 s.body.length c6):=s6.trans (congrArg some (show x6=_ from hx6))
    have z7:wr.cell? ⟨ks,7,none⟩=some (.slice A7 s.els.length c7):=s7.trans (congrArg some (show x7=_ from hx7))
    have bl:=U.below
    clear F gB gO hB hO s6 s7 U
    go_wp2_with fail
    exact bodyPost_ret (v:= .bool true) (by simp [results,Tryz.results145,go_sem]) rfl ⟨rfl,bl⟩
theorem src_number (w:World)(q n:Int)(s:Al.Stmt)(x6 x7:Value)(hq:0<=q/\q<8388608)(h:Al.numOk q s=true):Calls Tryz.prog 146 #[.agg #[.int .i64 q,.int .i64 n],.agg (stmtV s x6 x7)] w fun e w'=>e= .returned (.bool true)/\Below w.heap.size w w':=by
 have hb:=alloc_two w (.cells #[.int .i64 q,.int .i64 n] 23) (.cells (stmtV s x6 x7) 66)
 unfold stmtV at hb
 unfold Al.numOk at h
 cases s with|mk op d a b c k body els=>
 dsimp only at h hb
 by_cases h6:op=6
 ·subst h6
  simp at h
  obtain⟨k0,k1⟩:=h
  have t0:decide (0<=k)=true:=decide_eq_true k0
  have t1:decide (k<q)=true:=decide_eq_true k1
  unfold stmtV
  go_enter Tryz.func146,Tryz.ntmps146
  go_wp2_with fail
  exact bodyPost_ret (v:= .bool true) (by simp [results,Tryz.results146,go_sem, *]) rfl ⟨rfl,by first|exact hb|exact Go.Proofs.YtkplfaionpplaaaGreatDoorW.PrintWords.pw_below_drewN hb _⟩
 by_cases h8:op=8
 ·subst h8
  simp at h
  obtain⟨k0,k1,k2⟩:=h
  have hk:((k.toNat:Nat):Int)=k:=by omega
  have t0:decide (1<=k)=true:=decide_eq_true k0
  have t1:decide (k<=30)=true:=decide_eq_true k1
  have t2:decide ((2:Int) ^ k.toNat<q)=true:=decide_eq_true k2
  have t3:¬k<0:=by omega
  have t4:wrap64 (2 ^ k.toNat)=2 ^ k.toNat:=by have:=one_le_pow2 k.toNat;unfold wrap64;omega
  unfold stmtV
  go_enter Tryz.func146,Tryz.ntmps146
  go_wp2_with fail
  go_big_quiet (fail)
  go_wp2_with fail
  exact bodyPost_ret (v:= .bool true) (by simp [results,Tryz.results146,go_sem, *]) rfl ⟨rfl,by first|exact hb|exact Go.Proofs.YtkplfaionpplaaaGreatDoorW.PrintWords.pw_below_drewN hb _⟩
 by_cases h9:op=9
 ·subst h9
  simp at h
  obtain⟨k0,k1,k2⟩:=h
  have hk:((k.toNat:Nat):Int)=k:=by omega
  have t0:decide (1<=k)=true:=decide_eq_true k0
  have t1:decide (k<=30)=true:=decide_eq_true k1
  have t2:decide ((2:Int) ^ k.toNat<q)=true:=decide_eq_true k2
  have t3:¬k<0:=by omega
  have t4:wrap64 (2 ^ k.toNat)=2 ^ k.toNat:=by have:=one_le_pow2 k.toNat;unfold wrap64;omega
  unfold stmtV
  go_enter Tryz.func146,Tryz.ntmps146
  go_wp2_with fail
  go_big_quiet (fail)
  go_wp2_with fail
  exact bodyPost_ret (v:= .bool true) (by simp [results,Tryz.results146,go_sem, *]) rfl ⟨rfl,by first|exact hb|exact Go.Proofs.YtkplfaionpplaaaGreatDoorW.PrintWords.pw_below_drewN hb _⟩
 by_cases h11:op=11
 ·subst h11
  simp at h
  obtain⟨k0,k1⟩:=h
  have t0:decide (0<=k)=true:=decide_eq_true k0
  have t1:decide (k<=q)=true:=decide_eq_true k1
  unfold stmtV
  go_enter Tryz.func146,Tryz.ntmps146
  go_wp2_with fail
  exact bodyPost_ret (v:= .bool true) (by simp [results,Tryz.results146,go_sem, *]) rfl ⟨rfl,by first|exact hb|exact Go.Proofs.YtkplfaionpplaaaGreatDoorW.PrintWords.pw_below_drewN hb _⟩
 by_cases h15:op=15
 ·subst h15
  simp at h
  obtain⟨k0,k1⟩:=h
  have t0:decide (1<=k)=true:=decide_eq_true k0
  have t1:decide (k<=50)=true:=decide_eq_true k1
  unfold stmtV
  go_enter Tryz.func146,Tryz.ntmps146
  go_wp2_with fail
  exact bodyPost_ret (v:= .bool true) (by simp [results,Tryz.results146,go_sem, *]) rfl ⟨rfl,by first|exact hb|exact Go.Proofs.YtkplfaionpplaaaGreatDoorW.PrintWords.pw_below_drewN hb _⟩
 by_cases h16:op=16
 ·subst h16
  simp at h
  obtain⟨k0,k1⟩:=h
  have t0:decide (1<=k)=true:=decide_eq_true k0
  have t1:decide (k<=50)=true:=decide_eq_true k1
  unfold stmtV
  go_enter Tryz.func146,Tryz.ntmps146
  go_wp2_with fail
  exact bodyPost_ret (v:= .bool true) (by simp [results,Tryz.results146,go_sem, *]) rfl ⟨rfl,by first|exact hb|exact Go.Proofs.YtkplfaionpplaaaGreatDoorW.PrintWords.pw_below_drewN hb _⟩
 unfold stmtV
 go_enter Tryz.func146,Tryz.ntmps146
 have z6:decide (op=6)=false:=decide_eq_false h6
 have z8:decide (op=8)=false:=decide_eq_false h8
 have z9:decide (op=9)=false:=decide_eq_false h9
 have z11:decide (op=11)=false:=decide_eq_false h11
 have z15:decide (op=15)=false:=decide_eq_false h15
 have z16:decide (op=16)=false:=decide_eq_false h16
 go_wp2_with fail
 exact bodyPost_ret (v:= .bool true) (by simp [results,Tryz.results146,go_sem, *]) rfl ⟨rfl,by first|exact hb|exact Go.Proofs.YtkplfaionpplaaaGreatDoorW.PrintWords.pw_below_drewN hb _⟩
structure OB (w:World)(kp ks kf:Nat)(q n:Int)(nv:Nat)(Va:Option Addr)(vc:Nat)(xb:Value)(s:Al.Stmt)(x6 x7:Value)(word:ByteArray)(g:Al.Has):Prop where
 p:w.heap[kp]?=some (.cells #[.int .i64 q,.int .i64 n,.slice Va nv vc,xb] 27 (0,0))
 s:SB w ks s x6 x7
 f:w.heap[kf]?=some (.cells #[.string word,.bool g.d,.bool g.a,.bool g.b,.bool g.c,.bool g.k,.bool g.body,.bool g.other] 192 (0,0))
section
variable {w w':World} {kp ks kf:Nat} {q n:Int} {nv:Nat} {Va:Option Addr} {vc:Nat} {xb:Value} {s:Al.Stmt} {x6 x7:Value} {word:ByteArray} {g:Al.Has}
theorem OB.below (h:OB w kp ks kf q n nv Va vc xb s x6 x7 word g){B:Nat}(hb:Below B w w')(hB:w.heap.size<=B):OB w' kp ks kf q n nv Va vc xb s x6 x7 word g:=
 ⟨below_blk hb h.p (Nat.lt_of_lt_of_le (blk_lt h.p) hB),below_blk hb h.s (Nat.lt_of_lt_of_le (blk_lt h.s) hB),below_blk hb h.f (Nat.lt_of_lt_of_le (blk_lt h.f) hB)⟩
theorem OB.alloc (h:OB w kp ks kf q n nv Va vc xb s x6 x7 word g)(o:Obj):OB (w.alloc o) kp ks kf q n nv Va vc xb s x6 x7 word g:=
 ⟨alloc_blk _ h.p,alloc_blk _ h.s,alloc_blk _ h.f⟩
theorem OB.grow (h:OB w kp ks kf q n nv Va vc xb s x6 x7 word g){base:Nat}{v:Value}{l:List Int}{size:Nat}{xs:List Value}(hown:w.ownsRow base 3 size v l.length xs)(hg:w.grownBy w' v.ownBlock):OB w' kp ks kf q n nv Va vc xb s x6 x7 word g:=
 ⟨grow_blk hg h.p (own_ne_blk hown h.p (by decide)),grow_blk hg h.s (own_ne_blk hown h.s (by decide)),grow_blk hg h.f (own_ne_blk hown h.f (by decide))⟩
end
open Go.Proofs.YtkplfaionpplaaaGreatDoorW.PrintLast Go.Proofs.YtkplfaionpplaaaGreatDoorW.PrintWords
theorem depthS_nonneg (s:Al.Stmt):0<=Al.depthS s:=by cases s;unfold Al.depthS;omega
theorem depthL_ge:∀ (l:List Al.Stmt), -1<=Al.depthL l
 |[]=>by simp [Al.depthL]
 |s :: l=>by have:=depthS_nonneg s;simp only [Al.depthL];omega
theorem depth_get:∀ (l:List Al.Stmt) (i:Nat) (h:i<l.length),Al.depthS l[i]<=Al.depthL l
 |[],i,h=>by simp at h
 |s :: l,0,h=>by simp only [Al.depthL,List.getElem_cons_zero];omega
 |s :: l,i+1,h=>by have:=depth_get l i (by simpa using h);simp only [Al.depthL,List.getElem_cons_succ];omega
theorem depth_body (s:Al.Stmt):Al.depthL s.body+1<=Al.depthS s/\Al.depthL s.els+1<=Al.depthS s:=by
 cases s;unfold Al.depthS;dsimp only;omega
theorem flatL_append:∀ (l m:List Al.Stmt),Al.flatL (l++m)=Al.flatL l++Al.flatL m
 |[],m=>by simp [Al.flatL]
 |s :: l,m=>by simp only [List.cons_append,Al.flatL,flatL_append l m,List.append_assoc]
theorem flatS_eq (s:Al.Stmt):Al.flatS s=s :: (Al.flatL s.body++Al.flatL s.els):=by cases s;simp [Al.flatS]
theorem flatL_one (s:Al.Stmt):Al.flatL [s]=Al.flatS s:=by simp [Al.flatL]
theorem flatL_len:∀ (l:List Al.Stmt),l.length<=(Al.flatL l).length
 |[]=>by simp
 |s :: l=>by have:=flatL_len l;simp only [Al.flatL,List.length_append,flatS_eq,List.length_cons];omega
end Go.Proofs.YtkplfaionpplaaaGreatDoor
namespace Go.Proofs.YtkplfaionpplaaaGreatDoor
open Go.RowKit Go.Proofs.YtkplfaionpplaaaGreatDoorW.PrintLast
theorem chg_set {w:World}{F:Nat->Prop}{k j:Nat}{u:Value}(h:F k):Chg w (w.setCell ⟨k,j,none⟩ u) F F:=
 ⟨rfl,rfl,rfl,by rw [set_size];exact Nat.le_refl _,fun i _ hn=>set_blk_ne _ _ (fun e=>hn (e ▸ h)),fun _ h=> .inl h⟩
theorem chg_alloc (w:World)(F:Nat->Prop)(o:Obj):Chg w (w.alloc o) F F:=Chg.of_below F ((Below.refl _ _).alloc (Nat.le_refl _) _)
structure CountI (W0:World)(n0 kn km:Nat)(j:Nat)(w:World):Prop where
 below:Below W0.heap.size W0 w
 size:n0<=w.heap.size
 n:w.heap[kn]?=some (.cells #[.int .i64 j] 3 (0,0))
 m:w.heap[km]?=some (.cells #[.bool false] 4 (0,0))
theorem CountI.step {W0:World}{n0 kn km j:Nat}{w w':World}(h:CountI W0 n0 kn km j w)(hW:W0.heap.size<=w.heap.size)(hb:Below w.heap.size w w'):CountI W0 n0 kn km j w':=
 ⟨h.below.trans (lower_below hb hW),Nat.le_trans h.size hb.size,below_blk hb h.n (blk_lt h.n),below_blk hb h.m (blk_lt h.m)⟩
structure ErrI (W0:World)(n0 kp kn ke:Nat)(q n:Int)(nv:Nat)(Va:Option Addr)(vc:Nat)(xb:Value)(j:Nat)(w:World):Prop where
 below:Below W0.heap.size W0 w
 size:n0<=w.heap.size
 p:w.heap[kp]?=some (.cells #[.int .i64 q,.int .i64 n,.slice Va nv vc,xb] 27 (0,0))
 n:w.heap[kn]?=some (.cells #[.int .i64 j] 3 (0,0))
 e:w.heap[ke]?=some (.cells #[Value.nilIface] 44 (0,0))
theorem ErrI.step {W0:World}{n0 kp kn ke:Nat}{q n:Int}{nv:Nat}{Va:Option Addr}{vc:Nat}{xb:Value}{j:Nat}{w w':World}(h:ErrI W0 n0 kp kn ke q n nv Va vc xb j w)(hW:W0.heap.size<=w.heap.size)(hb:Below w.heap.size w w'):ErrI W0 n0 kp kn ke q n nv Va vc xb j w':=
 ⟨h.below.trans (lower_below hb hW),Nat.le_trans h.size hb.size,below_blk hb h.p (blk_lt h.p),below_blk hb h.n (blk_lt h.n),below_blk hb h.e (blk_lt h.e)⟩
structure PLies (w:World)(p:Al.Prog)(Va Ab:Option Addr)(vc cb:Nat):Prop where
 v:kVar.C w Va p.vars.length p.vars
 b:kStmt.C w Ab p.body.length p.body
 cap:p.body.length<=cb
def progV (p:Al.Prog)(Va Ab:Option Addr)(vc cb:Nat):Value:= .agg #[.int .i64 p.q,.int .i64 p.n,.slice Va p.vars.length vc,.slice Ab p.body.length cb]
theorem PLies.below {w w':World}{p:Al.Prog}{Va Ab:Option Addr}{vc cb:Nat}(h:PLies w p Va Ab vc cb)(hb:Below w.heap.size w w'):PLies w' p Va Ab vc cb:=
 ⟨Go.Proofs.YtkplfaionpplaaaGreatDoorW.PrintWords.Kd.C_below h.v hb,Go.Proofs.YtkplfaionpplaaaGreatDoorW.PrintWords.Kd.C_below h.b hb,h.cap⟩
def PBox (w:World)(kp:Nat)(p:Al.Prog)(Va Ab:Option Addr)(vc cb:Nat):Prop:=w.heap[kp]?=some (.cells #[.int .i64 p.q,.int .i64 p.n,.slice Va p.vars.length vc,.slice Ab p.body.length cb] 27 (0,0))
theorem PBox.cells {w:World}{kp:Nat}{p:Al.Prog}{Va Ab:Option Addr}{vc cb:Nat}(h:PBox w kp p Va Ab vc cb):w.cell? ⟨kp,0,none⟩=some (.int .i64 p.q)/\w.cell? ⟨kp,1,none⟩=some (.int .i64 p.n)/\w.cell? ⟨kp,2,none⟩=some (.slice Va p.vars.length vc)/\w.cell? ⟨kp,3,none⟩=some (.slice Ab p.body.length cb):=
 ⟨(cell_blk h _).trans rfl,(cell_blk h _).trans rfl,(cell_blk h _).trans rfl,(cell_blk h _).trans rfl⟩
theorem rd_var (l:List Al.Var)(i:Nat)(h:i<l.length):rd_T901 l (i:Int)=l[i]:=by unfold rd_T901;simp [List.getD,h]
theorem secret_one {w:World}{p:Al.Prog}{Va Ab:Option Addr}{vc cb k:Nat}(hp:PLies w p Va Ab vc cb)(hk:PBox w k p Va Ab vc cb)(v:Int)(h0:0<=v)(h1:v<p.vars.length):
  Calls Tryz.prog 176 #[.int .i64 v,.pointer (some ⟨k,0,none⟩)] w fun e w'=>e= .returned (.bool (rd_T901 p.vars v).secret)/\w'=w:=by
 obtain⟨p0,p1,p2,p3⟩:=hk.cells
 obtain⟨ad,rfl,d0,d1⟩:=at_T901 hp.v v h0 h1
 go_enter Tryz.func176,Tryz.ntmps176
 go_wp2_with fail
 exact bodyPost_ret (v:= .bool (rd_T901 p.vars v).secret) (by simp [results,Tryz.results176,go_sem]) rfl ⟨rfl,rfl⟩
theorem secret_any {w:World}{p:Al.Prog}{Va Ab:Option Addr}{vc cb:Nat}:
  Calls Tryz.prog 148 #[progV p Va Ab vc cb] w fun e w'=>∃ k,e= .returned (.func (.func 176) #[] #[.pointer (some ⟨k,0,none⟩)])/\PBox w' k p Va Ab vc cb/\Below w.heap.size w w':=by
 have hb:Below w.heap.size w (w.alloc (.cells #[.int .i64 p.q,.int .i64 p.n,.slice Va p.vars.length vc,.slice Ab p.body.length cb] 27)):=(Below.refl _ _).alloc (Nat.le_refl _) _
 have hP:PBox (w.alloc (.cells #[.int .i64 p.q,.int .i64 p.n,.slice Va p.vars.length vc,.slice Ab p.body.length cb] 27)) w.heap.size p Va Ab vc cb:=heap_alloc_new w _
 go_enter Tryz.func148,Tryz.ntmps148
 unfold progV
 go_wp2_with fail
 exact bodyPost_ret (v:= .func (.func 176) #[] #[.pointer (some ⟨w.heap.size,0,none⟩)]) (by simp [results,Tryz.results148,go_sem]) rfl ⟨w.heap.size,rfl,hP,hb⟩
theorem undrew {w w':World}(h:Below w.drew.heap.size w.drew w'):Below w.heap.size w w':=⟨h.os,h.tape,h.output,h.size,h.block⟩
structure AllI (W0:World)(n0 kp ko kn:Nat)(p:Al.Prog)(Va Ab:Option Addr)(vc cb:Nat)(j:Nat)(w:World):Prop where
 below:Below W0.heap.size W0 w
 size:n0<=w.heap.size
 p:PBox w kp p Va Ab vc cb
 o:w.heap[ko]?=some (.cells #[.slice none 0 0] 86 (0,0))
 n:w.heap[kn]?=some (.cells #[.int .i64 j] 3 (0,0))
theorem AllI.step {W0:World}{n0 kp ko kn:Nat}{p:Al.Prog}{Va Ab:Option Addr}{vc cb:Nat}{j:Nat}{w w':World}(h:AllI W0 n0 kp ko kn p Va Ab vc cb j w)(hW:W0.heap.size<=w.heap.size)(hb:Below w.heap.size w w'):AllI W0 n0 kp ko kn p Va Ab vc cb j w':=
 ⟨h.below.trans (lower_below hb hW),Nat.le_trans h.size hb.size,below_blk hb h.p (blk_lt h.p),below_blk hb h.o (blk_lt h.o),below_blk hb h.n (blk_lt h.n)⟩
end Go.Proofs.YtkplfaionpplaaaGreatDoor
namespace Go.Proofs.YtkplfaionpplaaaGreatDoor.Al
theorem vecC_le (E:Env)(p T:Nat)(s:Stmt):(vecC E p T s).length<=60:=by
 unfold vecC
 dsimp only
 by_cases h0:s.op=1
 ·rw [if_pos h0];simp [eachC,zeroB,copyB,addB,subB,mulB,scaleB,convB,conv2B,roundB,expandB,pickB,normB,drawB,termC,cutC,quotC,reduceC]
 rw [if_neg h0]
 by_cases h1:s.op=2\/s.op=12
 ·rw [if_pos h1];simp [eachC,zeroB,copyB,addB,subB,mulB,scaleB,convB,conv2B,roundB,expandB,pickB,normB,drawB,termC,cutC,quotC,reduceC]
 rw [if_neg h1]
 by_cases h2:s.op=3
 ·rw [if_pos h2];simp [eachC,zeroB,copyB,addB,subB,mulB,scaleB,convB,conv2B,roundB,expandB,pickB,normB,drawB,termC,cutC,quotC,reduceC]
 rw [if_neg h2]
 by_cases h3:s.op=4
 ·rw [if_pos h3];simp [eachC,zeroB,copyB,addB,subB,mulB,scaleB,convB,conv2B,roundB,expandB,pickB,normB,drawB,termC,cutC,quotC,reduceC]
 rw [if_neg h3]
 by_cases h4:s.op=5
 ·rw [if_pos h4];simp [eachC,zeroB,copyB,addB,subB,mulB,scaleB,convB,conv2B,roundB,expandB,pickB,normB,drawB,termC,cutC,quotC,reduceC]
 rw [if_neg h4]
 by_cases h5:s.op=6
 ·rw [if_pos h5];simp [eachC,zeroB,copyB,addB,subB,mulB,scaleB,convB,conv2B,roundB,expandB,pickB,normB,drawB,termC,cutC,quotC,reduceC]
 rw [if_neg h5]
 by_cases h6:s.op=7
 ·rw [if_pos h6];simp [eachC,zeroB,copyB,addB,subB,mulB,scaleB,convB,conv2B,roundB,expandB,pickB,normB,drawB,termC,cutC,quotC,reduceC]
 rw [if_neg h6]
 by_cases h7:s.op=8
 ·rw [if_pos h7];simp [eachC,zeroB,copyB,addB,subB,mulB,scaleB,convB,conv2B,roundB,expandB,pickB,normB,drawB,termC,cutC,quotC,reduceC]
 rw [if_neg h7]
 by_cases h8:s.op=9
 ·rw [if_pos h8];simp [eachC,zeroB,copyB,addB,subB,mulB,scaleB,convB,conv2B,roundB,expandB,pickB,normB,drawB,termC,cutC,quotC,reduceC]
 rw [if_neg h8]
 by_cases h9:s.op=10
 ·rw [if_pos h9];simp [eachC,zeroB,copyB,addB,subB,mulB,scaleB,convB,conv2B,roundB,expandB,pickB,normB,drawB,termC,cutC,quotC,reduceC]
 rw [if_neg h9]
 by_cases h10:s.op=11
 ·rw [if_pos h10];simp [eachC,zeroB,copyB,addB,subB,mulB,scaleB,convB,conv2B,roundB,expandB,pickB,normB,drawB,termC,cutC,quotC,reduceC]
 rw [if_neg h10]
 by_cases h11:s.op=13
 ·rw [if_pos h11];simp [eachC,zeroB,copyB,addB,subB,mulB,scaleB,convB,conv2B,roundB,expandB,pickB,normB,drawB,termC,cutC,quotC,reduceC]
 rw [if_neg h11]
 simp
mutual
theorem genS_le (E:Env)(T G:Nat):∀ (s:Stmt) (deep p:Nat),(genS E T G deep p s).length<=60 * (flatS s).length
 |⟨op,d,a,b,e,k,body,els⟩,deep,p=>by
  have h1:=genL_le E T G body (deep+1) (p+2)
  have h3:=genL_le E T G body (deep+1) (p+1)
  have h2:=genL_le E T G els (deep+1) (p+2+(genL E T G (deep+1) (p+2) body).length+1)
  have h4:=vecC_le E p T ⟨op,d,a,b,e,k,[],[]⟩
  unfold genS flatS
  split
  ·simp only [List.length_append,List.length_cons,List.length_nil];omega
  ·split
   ·simp only [List.length_append,List.length_cons,List.length_nil];omega
   ·split
    ·simp only [List.length_append,List.length_cons,List.length_nil];omega
    ·simp only [List.length_append,List.length_cons];omega
theorem genL_le (E:Env)(T G:Nat):∀ (l:List Stmt) (deep p:Nat),(genL E T G deep p l).length<=60 * (flatL l).length
 |[],_,_=>by simp [genL]
 |s :: l,deep,p=>by
  have h1:=genS_le E T G s deep p
  have h2:=genL_le E T G l deep (p+(genS E T G deep p s).length)
  simp only [genL,flatL,List.length_append]
  omega
end
end Go.Proofs.YtkplfaionpplaaaGreatDoor.Al
namespace Go.Proofs.YtkplfaionpplaaaGreatDoor
open Go.RowKit Go.Proofs.YtkplfaionpplaaaGreatDoorW.PrintLast
def envP (p:Al.Prog):Al.Env:=Al.envOf p (Al.bitsOf p.q)
def mkOf (p:Al.Prog)(Va Ab:Option Addr)(vc cb:Nat):MkC:=⟨p.q,p.n,p.vars.length,Va,vc,.slice Ab p.body.length cb,2+p.n * p.vars.length+4096⟩
theorem ready_of {p:Al.Prog}(h:Al.Fine p)(Va Ab:Option Addr)(vc cb:Nat):Ready (mkOf p Va Ab vc cb) (envP p):=by
 have hq:=h.q
 have hn:=h.n
 have hv:=h.vars
 have e1:((envP p).q:Int)=p.q:=by simp [envP,Al.envOf];omega
 have e2:((envP p).n:Int)=p.n:=by simp [envP,Al.envOf];omega
 have e3:(envP p).nv=p.vars.length:=rfl
 refine⟨⟨⟨?_,?_,?_,?_,?_,?_⟩,?_,?_,?_,?_⟩,Al.env_ok h,?_,?_,?_⟩
 ·show 17<=p.q;omega
 ·show p.q<8388608;omega
 ·show 4<=p.n;omega
 ·show p.n<=256;omega
 ·show Al.ringOk p.q p.n=true
  unfold Al.ringOk;rw [h.prime,h.size];rfl
 ·show p.vars.length<=12;omega
 ·show p.q=_;rw [e1]
 ·show p.n=_;rw [e2]
 ·rfl
 ·show 2+p.n * p.vars.length+4096=_
  unfold Al.Env.scratch Al.Env.fin
  simp only [Int.natCast_add,Int.natCast_mul,e2,e3]
  rfl
 ·show Al.bitsOf p.q=Al.bitsOf ((envP p).q:Int)
  rw [e1]
 ·rw [e1];exact h.prime
 ·show Al.bitsOf p.q<=23
  unfold Al.bitsOf;(repeat' split)<;> omega
def lenP (p:Al.Prog):Nat:=Al.bodyP p.body+(Al.genL (envP p) 0 0 0 (Al.bodyP p.body) p.body).length
def codeP (p:Al.Prog):List Al.CI:=Al.progC (envP p) p.body (Al.outT (lenP p)) (Al.outG (lenP p) p.body)
end Go.Proofs.YtkplfaionpplaaaGreatDoor
