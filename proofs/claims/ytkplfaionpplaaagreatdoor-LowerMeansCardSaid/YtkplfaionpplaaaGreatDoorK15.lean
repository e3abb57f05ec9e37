/- Part 15: B28, B29, B30, B31, P29, B32. -/
import Derived.Test.YtkplfaionpplaaaGreatDoorK14
set_option maxRecDepth 100000
set_option maxHeartbeats 6400000
set_option linter.unusedVariables false
set_option linter.unusedSimpArgs false
namespace Go.Proofs.YtkplfaionpplaaaGreatDoor
open Go.RowKit
def SB (w:World)(k:Nat)(s:Al.Stmt)(x6 x7:Value):Prop:=w.heap[k]?=some (.cells (stmtV s x6 x7) 66 (0,0))
theorem SB.below {w w':World}{k:Nat}{s:Al.Stmt}{x6 x7:Value}(h:SB w k s x6 x7){B:Nat}(hb:Below B w w')(hk:k<B):SB w' k s x6 x7:=below_blk hb h hk
theorem SB.cells {w:World}{k:Nat}{s:Al.Stmt}{x6 x7:Value}(h:SB w k s x6 x7):w.cell? ⟨k,0,none⟩=some (.int .i64 s.op)/\w.cell? ⟨k,1,none⟩=some (.int .i64 s.d)/\w.cell? ⟨k,2,none⟩=some (.int .i64 s.a)/\w.cell? ⟨k,3,none⟩=some (.int .i64 s.b)/\w.cell? ⟨k,4,none⟩=some (.int .i64 s.c)/\w.cell? ⟨k,5,none⟩=some (.int .i64 s.k)/\w.cell? ⟨k,6,none⟩=some x6/\w.cell? ⟨k,7,none⟩=some x7:=
 ⟨(cell_blk h _).trans rfl,(cell_blk h _).trans rfl,(cell_blk h _).trans rfl,(cell_blk h _).trans rfl,(cell_blk h _).trans rfl,(cell_blk h _).trans rfl,(cell_blk h _).trans rfl,(cell_blk h _).trans rfl⟩
theorem lower_below {B B':Nat}{w w':World}(h:Below B' w w')(hB:B<=B'):Below B w w':=⟨h.os,h.tape,h.output,h.size,fun k hk=>h.block k (by omega)⟩
theorem src_writes (w:World)(s:Al.Stmt)(x6 x7:Value){g:Al.Has}(hg:Al.hasOf s.op=some g):Calls Tryz.prog 144 #[.agg (stmtV s x6 x7)] w fun e w'=>e= .returned (.tuple #[.int .i64 (if g.d then s.d else 0),.bool g.d])/\Below w.heap.size w w':=by
 obtain⟨W,hW⟩:∃ W,W=w.alloc (.cells (stmtV s x6 x7) 66):=⟨_,rfl⟩
 obtain⟨ks,hks⟩:∃ ks,ks=w.heap.size:=⟨_,rfl⟩
 have hb0:Below w.heap.size w W:=by rw [hW];exact (Below.refl _ _).alloc (Nat.le_refl _) _
 have h0:SB W ks s x6 x7:=by rw [hW,hks];exact heap_alloc_new w _
 have hkl:ks<W.heap.size:=blk_lt h0
 go_enter Tryz.func144,Tryz.ntmps144
 unfold stmtV
 go_wp2_with fail
 have hWu:W=w.alloc (.cells #[.int .i64 s.op,.int .i64 s.d,.int .i64 s.a,.int .i64 s.b,.int .i64 s.c,.int .i64 s.k,x6,x7] 66):=hW
 rw [<-hWu]
 simp only [<-hks]
 replace hks:=Lib.hid hks
 clear hW hWu
 have HF:=src_of W s.op hg
 unfold formV at HF
 obtain⟨gd,ga,gb,gc,gk,gB,gO⟩:=g
 dsimp only at HF ⊢
 cases gd
 all_goals
  go_wp2_with (first|(go_at_call 142;refine HF.mono ?_;rintro e w1 ⟨word,rfl,hb1⟩;obtain⟨s0,s1,s2,s3,s4,s5,s6,s7⟩:=(h0.below hb1 hkl).cells;have v1:∀ o,(w1.alloc o).cell? _=_:=fun o=>alloc_cell o s1))
 ·exact bodyPost_ret (v:= .tuple #[.int .i64 0,.bool false]) (by simp [results,Tryz.results144,go_sem]) rfl ⟨rfl,(hb0.trans (lower_below hb1 hb0.size)).alloc (Nat.le_trans hb0.size hb1.size) _⟩
 ·exact bodyPost_ret (v:= .tuple #[.int .i64 s.d,.bool true]) (by simp [results,Tryz.results144,go_sem]) rfl ⟨rfl,(hb0.trans (lower_below hb1 hb0.size)).alloc (Nat.le_trans hb0.size hb1.size) _⟩
def usesN (g:Al.Has)(s:Al.Stmt)(j:Nat):List Int:=(if g.a && decide (0<j) then [s.a] else [])++((if g.b && decide (1<j) then [s.b] else [])++(if g.c && decide (2<j) then [s.c] else []))
structure UI (w w':World)(ks kb:Nat)(s:Al.Stmt)(x6 x7:Value)(g:Al.Has)(j:Nat)(v:Value):Prop where
 own:w'.ownsRow w.heap.size 3 1 v (usesN g s j).length (intsV (usesN g s j))
 sb:SB w' ks s x6 x7
 kb:w'.heap[kb]?=some (.cells #[.bool g.a,.bool g.b,.bool g.c] 4 (0,0))
 below:Below w.heap.size w w'
theorem below_grown {B:Nat}{w W W':World}{row:Option Nat}(hb:Below B w W)(hg:W.grownBy W' row)(hr:∀ k,row=some k->B<=k)(hB:B<=W.heap.size):Below B w W':=
 ⟨hg.os.trans hb.os,hg.tape.trans hb.tape,hg.output.trans hb.output,Nat.le_trans hb.size hg.size,fun k hk=>by
  rw [hg.block k (Nat.lt_of_lt_of_le hk hB) (fun h=>by have:=hr k h.symm;omega)];exact hb.block k hk⟩
theorem src_uses (w:World)(s:Al.Stmt)(x6 x7:Value){g:Al.Has}(hg:Al.hasOf s.op=some g):Calls Tryz.prog 143 #[.agg (stmtV s x6 x7)] w fun e w'=>∃ v,e= .returned v/\w'.ownsRow w.heap.size 3 1 v (Al.usesOf s).length (intsV (Al.usesOf s))/\Below w.heap.size w w':=by
 have hfin:usesN g s 3=Al.usesOf s:=by unfold usesN Al.usesOf;rw [hg];simp
 rw [<-hfin]
 obtain⟨j0,hj0,jz0,jz1,jz2⟩:=info_parts Tryz.infoInt
 obtain⟨W,hW⟩:∃ W,W=w.alloc (.cells (stmtV s x6 x7) 66):=⟨_,rfl⟩
 obtain⟨ks,hks⟩:∃ ks,ks=w.heap.size:=⟨_,rfl⟩
 have hb0:Below w.heap.size w W:=by rw [hW];exact (Below.refl _ _).alloc (Nat.le_refl _) _
 have h0:SB W ks s x6 x7:=by rw [hW,hks];exact heap_alloc_new w _
 have hkl:ks<W.heap.size:=blk_lt h0
 go_enter Tryz.func143,Tryz.ntmps143
 unfold stmtV
 go_wp2_with fail
 have hWu:W=w.alloc (.cells #[.int .i64 s.op,.int .i64 s.d,.int .i64 s.a,.int .i64 s.b,.int .i64 s.c,.int .i64 s.k,x6,x7] 66):=hW
 rw [<-hWu]
 simp only [<-hks]
 replace hks:=Lib.hid hks
 replace hfin:=Lib.hid hfin
 clear hW hWu
 have HF:=src_of W s.op hg
 unfold formV at HF
 go_wp2_with (first|(go_at_call 142;refine HF.mono ?_;rintro e w1 ⟨word,rfl,hb1⟩;have h1:=h0.below hb1 hkl))
 obtain⟨W3,hW3⟩:∃ W3,W3=(w1.alloc (.cells #[.string word,.bool g.d,.bool g.a,.bool g.b,.bool g.c,.bool g.k,.bool g.body,.bool g.other] 192)).alloc (.cells #[.bool g.a,.bool g.b,.bool g.c] 4):=⟨_,rfl⟩
 obtain⟨kb,hkb⟩:∃ kb,kb=w1.heap.size+1:=⟨_,rfl⟩
 have hbw1:Below w.heap.size w w1:=hb0.trans (lower_below hb1 hb0.size)
 have U0:UI w W3 ks kb s x6 x7 g 0 (.slice none 0 0):=by
  rw [hW3,hkb]
  refine⟨by simpa [usesN,intsV] using World.ownsRow_nil _ _ _ _,alloc_blk _ (alloc_blk _ h1),alloc_at _ _ _,(hbw1.alloc hbw1.size _).alloc (by simp;have:=hbw1.size;omega) _⟩
 rw [<-hW3]
 simp only [<-hkb]
 replace U0:=Lib.hid U0
 clear hW3 hkb hb0 h0 hkl HF hb1 h1 hbw1
 go_loopg [5,6,7,22] 4 (fun gk v5 v6 v7 v22 w'=>∃ j:Nat,v22= .int .i64 j/\j+gk=4/\j<=3/\Hid (UI w w' ks kb s x6 x7 g j v5))
 case atStart=>exact⟨0,rfl,by omega,by omega,U0⟩
 case round=>
  obtain⟨j,rfl,hj,hj2,HU⟩:=hrel
  have U:=show UI w wr ks kb s x6 x7 g j u5 from HU
  clear HU U0
  have K:=U.kb
  obtain⟨s0,s1,s2,s3,s4,s5,s6,s7⟩:=U.sb.cells
  clear s0 s1 s5 s6 s7
  have hj4:j=0\/j=1\/j=2\/j=3:=by omega
  rcases hj4 with rfl|rfl|rfl|rfl
  ·obtain⟨k1,rfl⟩:∃ k1,gk=k1+1:=⟨gk - 1,by omega⟩
   rcases (Bool.eq_false_or_eq_true g.a).symm with hgj|hgj
   ·rw [hgj] at K
    have q:wr.cell? ⟨kb,0,none⟩=some (.bool false):=(cell_blk K _).trans rfl
    have hn:usesN g s 1=usesN g s 0:=by simp [usesN,hgj]
    have U2:UI w wr ks kb s x6 x7 g 1 u5:=⟨by rw [hn];exact U.own,U.sb,U.kb,U.below⟩
    replace U2:=Lib.hid U2
    clear U K hn hgj s2 s3 s4
    go_wp2_with fail
    go_roundg k1
    case measure=>omega
    case rel=>exact⟨1,rfl,by omega,by omega,U2⟩
   ·rw [hgj] at K
    have q:wr.cell? ⟨kb,0,none⟩=some (.bool true):=(cell_blk K _).trans rfl
    have hn:usesN g s 1=usesN g s 0++[s.a]:=by simp [usesN,hgj]
    replace hn:=Lib.hid hn
    clear hgj
    have own1:((wr.alloc (.cells #[.int .i64 s.a,.int .i64 s.b,.int .i64 s.c] 3)).alloc (.cells #[.int .i64 s.a] 3)).ownsRow w.heap.size 3 1 u5 (usesN g s 0).length (intsV (usesN g s 0)):=(U.own.alloc _).alloc _
    have len3:(usesN g s 0).length<=3:=by unfold usesN;simp only [List.length_append];(repeat' split)<;> simp
    have sb1:SB ((wr.alloc (.cells #[.int .i64 s.a,.int .i64 s.b,.int .i64 s.c] 3)).alloc (.cells #[.int .i64 s.a] 3)) ks s x6 x7:=alloc_blk _ (alloc_blk _ U.sb)
    have kb1:=alloc_blk (.cells #[.int .i64 s.a] 3) (alloc_blk (.cells #[.int .i64 s.a,.int .i64 s.b,.int .i64 s.c] 3) U.kb)
    have bl1:Below w.heap.size w ((wr.alloc (.cells #[.int .i64 s.a,.int .i64 s.b,.int .i64 s.c] 3)).alloc (.cells #[.int .i64 s.a] 3)):=(U.below.alloc U.below.size _).alloc (by simp;have:=U.below.size;omega) _
    have hsz:w.heap.size<=wr.heap.size:=U.below.size
    have nb:=alloc_at wr (.cells #[.int .i64 s.a,.int .i64 s.b,.int .i64 s.c] 3) (.cells #[.int .i64 s.a] 3)
    go_wp2_with (first|(at_builtin;refine wpList_append_own_at _ rfl (.tmp 28) (.tmp 39) 86 rfl w.heap.size 3 j0 _ 1 8 Tryz.underlying86 hj0 jz0 jz1 jz2 rfl (by omega) u5 _ _ rfl own1 ⟨wr.heap.size+1,0,none⟩ 1 1 [.int .i64 s.a] rfl rfl (World.news_of_block nb) (by simp [Value.oneCell']) (by unfold maxLen;omega) (by omega) (by simp;omega) ?_;intro v2 w2 hown2 hgrow hnil hat))
    have U2:UI w w2 ks kb s x6 x7 g 1 v2:=by
     refine⟨?_,?_,?_,below_grown bl1 hgrow (fun k hk=>(own1.lt k hk).1) bl1.size⟩
     ·rw [show usesN g s _=_ from hn];simpa [intsV] using hown2
     ·exact grow_blk hgrow sb1 (own_ne_blk own1 sb1 (by decide))
     ·exact grow_blk hgrow kb1 (own_ne_blk own1 kb1 (by decide))
    replace U2:=Lib.hid U2
    clear U K hn s2 s3 s4 hown2 hgrow own1 sb1 kb1 bl1 nb hnil hat
    go_wp2_with fail
    go_roundg k1
    case measure=>omega
    case rel=>exact⟨1,rfl,by omega,by omega,U2⟩
  ·obtain⟨k1,rfl⟩:∃ k1,gk=k1+1:=⟨gk - 1,by omega⟩
   rcases (Bool.eq_false_or_eq_true g.b).symm with hgj|hgj
   ·rw [hgj] at K
    have q:wr.cell? ⟨kb,1,none⟩=some (.bool false):=(cell_blk K _).trans rfl
    have hn:usesN g s 2=usesN g s 1:=by simp [usesN,hgj]
    have U2:UI w wr ks kb s x6 x7 g 2 u5:=⟨by rw [hn];exact U.own,U.sb,U.kb,U.below⟩
    replace U2:=Lib.hid U2
    clear U K hn hgj s2 s3 s4
    go_wp2_with fail
    go_roundg k1
    case measure=>omega
    case rel=>exact⟨2,rfl,by omega,by omega,U2⟩
   ·rw [hgj] at K
    have q:wr.cell? ⟨kb,1,none⟩=some (.bool true):=(cell_blk K _).trans rfl
    have hn:usesN g s 2=usesN g s 1++[s.b]:=by simp [usesN,hgj]
    replace hn:=Lib.hid hn
    clear hgj
    have own1:((wr.alloc (.cells #[.int .i64 s.a,.int .i64 s.b,.int .i64 s.c] 3)).alloc (.cells #[.int .i64 s.b] 3)).ownsRow w.heap.size 3 1 u5 (usesN g s 1).length (intsV (usesN g s 1)):=(U.own.alloc _).alloc _
    have len3:(usesN g s 1).length<=3:=by unfold usesN;simp only [List.length_append];(repeat' split)<;> simp
    have sb1:SB ((wr.alloc (.cells #[.int .i64 s.a,.int .i64 s.b,.int .i64 s.c] 3)).alloc (.cells #[.int .i64 s.b] 3)) ks s x6 x7:=alloc_blk _ (alloc_blk _ U.sb)
    have kb1:=alloc_blk (.cells #[.int .i64 s.b] 3) (alloc_blk (.cells #[.int .i64 s.a,.int .i64 s.b,.int .i64 s.c] 3) U.kb)
    have bl1:Below w.heap.size w ((wr.alloc (.cells #[.int .i64 s.a,.int .i64 s.b,.int .i64 s.c] 3)).alloc (.cells #[.int .i64 s.b] 3)):=(U.below.alloc U.below.size _).alloc (by simp;have:=U.below.size;omega) _
    have hsz:w.heap.size<=wr.heap.size:=U.below.size
    have nb:=alloc_at wr (.cells #[.int .i64 s.a,.int .i64 s.b,.int .i64 s.c] 3) (.cells #[.int .i64 s.b] 3)
    go_wp2_with (first|(at_builtin;refine wpList_append_own_at _ rfl (.tmp 28) (.tmp 39) 86 rfl w.heap.size 3 j0 _ 1 8 Tryz.underlying86 hj0 jz0 jz1 jz2 rfl (by omega) u5 _ _ rfl own1 ⟨wr.heap.size+1,0,none⟩ 1 1 [.int .i64 s.b] rfl rfl (World.news_of_block nb) (by simp [Value.oneCell']) (by unfold maxLen;omega) (by omega) (by simp;omega) ?_;intro v2 w2 hown2 hgrow hnil hat))
    have U2:UI w w2 ks kb s x6 x7 g 2 v2:=by
     refine⟨?_,?_,?_,below_grown bl1 hgrow (fun k hk=>(own1.lt k hk).1) bl1.size⟩
     ·rw [show usesN g s _=_ from hn];simpa [intsV] using hown2
     ·exact grow_blk hgrow sb1 (own_ne_blk own1 sb1 (by decide))
     ·exact grow_blk hgrow kb1 (own_ne_blk own1 kb1 (by decide))
    replace U2:=Lib.hid U2
    clear U K hn s2 s3 s4 hown2 hgrow own1 sb1 kb1 bl1 nb hnil hat
    go_wp2_with fail
    go_roundg k1
    case measure=>omega
    case rel=>exact⟨2,rfl,by omega,by omega,U2⟩
  ·obtain⟨k1,rfl⟩:∃ k1,gk=k1+1:=⟨gk - 1,by omega⟩
   rcases (Bool.eq_false_or_eq_true g.c).symm with hgj|hgj
   ·rw [hgj] at K
    have q:wr.cell? ⟨kb,2,none⟩=some (.bool false):=(cell_blk K _).trans rfl
    have hn:usesN g s 3=usesN g s 2:=by simp [usesN,hgj]
    have U2:UI w wr ks kb s x6 x7 g 3 u5:=⟨by rw [hn];exact U.own,U.sb,U.kb,U.below⟩
    replace U2:=Lib.hid U2
    clear U K hn hgj s2 s3 s4
    go_wp2_with fail
    go_roundg k1
    case measure=>omega
    case rel=>exact⟨3,rfl,by omega,by omega,U2⟩
   ·rw [hgj] at K
    have q:wr.cell? ⟨kb,2,none⟩=some (.bool true):=(cell_blk K _).trans rfl
    have hn:usesN g s 3=usesN g s 2++[s.c]:=by simp [usesN,hgj]
    replace hn:=Lib.hid hn
    clear hgj
    have own1:((wr.alloc (.cells #[.int .i64 s.a,.int .i64 s.b,.int .i64 s.c] 3)).alloc (.cells #[.int .i64 s.c] 3)).ownsRow w.heap.size 3 1 u5 (usesN g s 2).length (intsV (usesN g s 2)):=(U.own.alloc _).alloc _
    have len3:(usesN g s 2).length<=3:=by unfold usesN;simp only [List.length_append];(repeat' split)<;> simp
    have sb1:SB ((wr.alloc (.cells #[.int .i64 s.a,.int .i64 s.b,.int .i64 s.c] 3)).alloc (.cells #[.int .i64 s.c] 3)) ks s x6 x7:=alloc_blk _ (alloc_blk _ U.sb)
    have kb1:=alloc_blk (.cells #[.int .i64 s.c] 3) (alloc_blk (.cells #[.int .i64 s.a,.int .i64 s.b,.int .i64 s.c] 3) U.kb)
    have bl1:Below w.heap.size w ((wr.alloc (.cells #[.int .i64 s.a,.int .i64 s.b,.int .i64 s.c] 3)).alloc (.cells #[.int .i64 s.c] 3)):=(U.below.alloc U.below.size _).alloc (by simp;have:=U.below.size;omega) _
    have hsz:w.heap.size<=wr.heap.size:=U.below.size
    have nb:=alloc_at wr (.cells #[.int .i64 s.a,.int .i64 s.b,.int .i64 s.c] 3) (.cells #[.int .i64 s.c] 3)
    go_wp2_with (first|(at_builtin;refine wpList_append_own_at _ rfl (.tmp 28) (.tmp 39) 86 rfl w.heap.size 3 j0 _ 1 8 Tryz.underlying86 hj0 jz0 jz1 jz2 rfl (by omega) u5 _ _ rfl own1 ⟨wr.heap.size+1,0,none⟩ 1 1 [.int .i64 s.c] rfl rfl (World.news_of_block nb) (by simp [Value.oneCell']) (by unfold maxLen;omega) (by omega) (by simp;omega) ?_;intro v2 w2 hown2 hgrow hnil hat))
    have U2:UI w w2 ks kb s x6 x7 g 3 v2:=by
     refine⟨?_,?_,?_,below_grown bl1 hgrow (fun k hk=>(own1.lt k hk).1) bl1.size⟩
     ·rw [show usesN g s _=_ from hn];simpa [intsV] using hown2
     ·exact grow_blk hgrow sb1 (own_ne_blk own1 sb1 (by decide))
     ·exact grow_blk hgrow kb1 (own_ne_blk own1 kb1 (by decide))
    replace U2:=Lib.hid U2
    clear U K hn s2 s3 s4 hown2 hgrow own1 sb1 kb1 bl1 nb hnil hat
    go_wp2_with fail
    go_roundg k1
    case measure=>omega
    case rel=>exact⟨3,rfl,by omega,by omega,U2⟩
  ·go_wp2_with fail
   refine bodyPost_ret (v:=u5) (by simp [results,Tryz.results143,go_sem]) rfl ⟨u5,rfl,U.own,U.below⟩
structure ShapeOk (g:Al.Has)(s:Al.Stmt):Prop where
 d:g.d=false->s.d=0
 a:g.a=false->s.a=0
 b:g.b=false->s.b=0
 c:g.c=false->s.c=0
 k:g.k=false->s.k=0
 body:g.body=false->s.body=[]
 other:g.other=false->s.els=[]
structure SI (w w':World)(ks kf kb:Nat)(s:Al.Stmt)(x6 x7:Value)(word:ByteArray)(g:Al.Has):Prop where
 sb:SB w' ks s x6 x7
 fb:w'.heap[kf]?=some (.cells #[.string word,.bool g.d,.bool g.a,.bool g.b,.bool g.c,.bool g.k,.bool g.body,.bool g.other] 192 (0,0))
 kb:w'.heap[kb]?=some (.cells #[.bool g.d,.bool g.a,.bool g.b,.bool g.c,.bool g.k] 4 (0,0))
 below:Below w.heap.size w w'
theorem SI.alloc {w w':World}{ks kf kb:Nat}{s:Al.Stmt}{x6 x7:Value}{word:ByteArray}{g:Al.Has}(h:SI w w' ks kf kb s x6 x7 word g)(o:Obj):SI w (w'.alloc o) ks kf kb s x6 x7 word g:=
 ⟨alloc_blk _ h.sb,alloc_blk _ h.fb,alloc_blk _ h.kb,h.below.alloc h.below.size _⟩
theorem alloc_three (w:World)(o1 o2 o3:Obj):(((w.alloc o1).alloc o2).alloc o3).heap[w.heap.size+2]?=some o3:=by
 have:=heap_alloc_new ((w.alloc o1).alloc o2) o3
 simpa using this
theorem src_shape (w:World)(s:Al.Stmt){A6 A7:Option Addr}{c6 c7:Nat}{g:Al.Has}(word:ByteArray)(h:ShapeOk g s):Calls Tryz.prog 145 #[.agg (stmtV s (.slice A6 s.body.length c6) (.slice A7 s.els.length c7)),formV (.string word) g] w fun e w'=>e= .returned (.bool true)/\Below w.heap.size w w':=by
 obtain⟨x6,hx6⟩:∃ x6,x6=Value.slice A6 s.body.length c6:=⟨_,rfl⟩
 obtain⟨x7,hx7⟩:∃ x7,x7=Value.slice A7 s.els.length c7:=⟨_,rfl⟩
 rw [<-hx6,<-hx7]
 replace hx6:=Lib.hid hx6
 replace hx7:=Lib.hid hx7
 obtain⟨W3,hW3⟩:∃ W3,W3=((w.alloc (.cells (stmtV s x6 x7) 66)).alloc (.cells #[.string word,.bool g.d,.bool g.a,.bool g.b,.bool g.c,.bool g.k,.bool g.body,.bool g.other] 192)).alloc (.cells #[.bool g.d,.bool g.a,.bool g.b,.bool g.c,.bool g.k] 4):=⟨_,rfl⟩
 obtain⟨ks,hks⟩:∃ ks,ks=w.heap.size:=⟨_,rfl⟩
 obtain⟨kf,hkf⟩:∃ kf,kf=ks+1:=⟨_,rfl⟩
 obtain⟨kb,hkb⟩:∃ kb,kb=kf+1:=⟨_,rfl⟩
 have U0:SI w W3 ks kf kb s x6 x7 word g:=by
  rw [hW3,hkb,hkf,hks]
  exact⟨alloc_blk _ (alloc_blk _ (heap_alloc_new w _)),alloc_blk _ (alloc_at _ _ _),alloc_three _ _ _ _,(alloc_two w _ _).alloc (by simp;omega) _⟩
 go_enter Tryz.func145,Tryz.ntmps145
 unfold stmtV formV
 go_wp2_with fail
 have hWu:W3=((w.alloc (.cells #[.int .i64 s.op,.int .i64 s.d,.int .i64 s.a,.int .i64 s.b,.int .i64 s.c,.int .i64 s.k,x6,x7] 66)).alloc (.cells #[.string word,.bool g.d,.bool g.a,.bool g.b,.bool g.c,.bool g.k,.bool g.body,.bool g.other] 192)).alloc (.cells #[.bool g.d,.bool g.a,.bool g.b,.bool g.c,.bool g.k] 4):=hW3
 rw [<-hWu]
 simp only [<-hks,<-hkf,<-hkb]
 replace U0:=Lib.hid U0
 clear hWu hW3 hks hkf hkb
 go_loopg [5,6,19] 6 (fun gk v5 v6 v19 w'=>∃ j:Nat,v19= .int .i64 j/\j+gk=6/\j<=5/\Hid (SI w w' ks kf kb s x6 x7 word g))
 case atStart=>exact⟨0,rfl,by omega,by omega,U0⟩
 case round=>
  obtain⟨j,rfl,hj,hj2,HU⟩:=hrel
  have U:=show SI w wr ks kf kb s x6 x7 word g from HU
  clear HU U0
  have K:=U.kb
  obtain⟨s0,s1,s2,s3,s4,s5,s6,s7⟩:=U.sb.cells
  have F:=U.fb
  clear s0
  have hj4:j=0\/j=1\/j=2\/j=3\/j=4\/j=5:=by omega
  rcases hj4 with rfl|rfl|rfl|rfl|rfl|rfl
  ·obtain⟨k1,rfl⟩:∃ k1,gk=k1+1:=⟨gk - 1,by omega⟩
   rcases (Bool.eq_false_or_eq_true g.d).symm with hgj|hgj
   ·rw [hgj] at K
    have q:wr.cell? ⟨kb,0,none⟩=some (.bool false):=(cell_blk K _).trans rfl
    have hz:s.d=0:=h.d hgj
    have U2:=fun o=>Lib.hid (U.alloc o)
    clear U K hgj
    go_wp2_with fail
    go_roundg k1
    case measure=>omega
    case rel=>exact⟨1,by simp,by omega,by omega,U2 _⟩
   ·rw [hgj] at K
    have q:wr.cell? ⟨kb,0,none⟩=some (.bool true):=(cell_blk K _).trans rfl
    replace U:=Lib.hid U
    clear K hgj
    go_wp2_with fail
    go_roundg k1
    case measure=>omega
    case rel=>exact⟨1,by simp,by omega,by omega,U⟩
  ·obtain⟨k1,rfl⟩:∃ k1,gk=k1+1:=⟨gk - 1,by omega⟩
   rcases (Bool.eq_false_or_eq_true g.a).symm with hgj|hgj
   ·rw [hgj] at K
    have q:wr.cell? ⟨kb,1,none⟩=some (.bool false):=(cell_blk K _).trans rfl
    have hz:s.a=0:=h.a hgj
    have U2:=fun o=>Lib.hid (U.alloc o)
    clear U K hgj
    go_wp2_with fail
    go_roundg k1
    case measure=>omega
    case rel=>exact⟨2,by simp,by omega,by omega,U2 _⟩
   ·rw [hgj] at K
    have q:wr.cell? ⟨kb,1,none⟩=some (.bool true):=(cell_blk K _).trans rfl
    replace U:=Lib.hid U
    clear K hgj
    go_wp2_with fail
    go_roundg k1
    case measure=>omega
    case rel=>exact⟨2,by simp,by omega,by omega,U⟩
  ·obtain⟨k1,rfl⟩:∃ k1,gk=k1+1:=⟨gk - 1,by omega⟩
   rcases (Bool.eq_false_or_eq_true g.b).symm with hgj|hgj
   ·rw [hgj] at K
    have q:wr.cell? ⟨kb,2,none⟩=some (.bool false):=(cell_blk K _).trans rfl
    have hz:s.b=0:=h.b hgj
    have U2:=fun o=>Lib.hid (U.alloc o)
    clear U K hgj
    go_wp2_with fail
    go_roundg k1
    case measure=>omega
    case rel=>exact⟨3,by simp,by omega,by omega,U2 _⟩
   ·rw [hgj] at K
    have q:wr.cell? ⟨kb,2,none⟩=some (.bool true):=(cell_blk K _).trans rfl
    replace U:=Lib.hid U
    clear K hgj
    go_wp2_with fail
    go_roundg k1
    case measure=>omega
    case rel=>exact⟨3,by simp,by omega,by omega,U⟩
  ·obtain⟨k1,rfl⟩:∃ k1,gk=k1+1:=⟨gk - 1,by omega⟩
   rcases (Bool.eq_false_or_eq_true g.c).symm with hgj|hgj
   ·rw [hgj] at K
    have q:wr.cell? ⟨kb,3,none⟩=some (.bool false):=(cell_blk K _).trans rfl
    have hz:s.c=0:=h.c hgj
    have U2:=fun o=>Lib.hid (U.alloc o)
    clear U K hgj
    go_wp2_with fail
    go_roundg k1
    case measure=>omega
    case rel=>exact⟨4,by simp,by omega,by omega,U2 _⟩
   ·rw [hgj] at K
    have q:wr.cell? ⟨kb,3,none⟩=some (.bool true):=(cell_blk K _).trans rfl
    replace U:=Lib.hid U
    clear K hgj
    go_wp2_with fail
    go_roundg k1
    case measure=>omega
    case rel=>exact⟨4,by simp,by omega,by omega,U⟩
  ·obtain⟨k1,rfl⟩:∃ k1,gk=k1+1:=⟨gk - 1,by omega⟩
   rcases (Bool.eq_false_or_eq_true g.k).symm with hgj|hgj
   ·rw [hgj] at K
    have q:wr.cell? ⟨kb,4,none⟩=some (.bool false):=(cell_blk K _).trans rfl
    have hz:s.k=0:=h.k hgj
    have U2:=fun o=>Lib.hid (U.alloc o)
    clear U K hgj
    go_wp2_with fail
    go_roundg k1
    case measure=>omega
    case rel=>exact⟨5,by simp,by omega,by omega,U2 _⟩
   ·rw [hgj] at K
    have q:wr.cell? ⟨kb,4,none⟩=some (.bool true):=(cell_blk K _).trans rfl
    replace U:=Lib.hid U
    clear K hgj
    go_wp2_with fail
    go_roundg k1
    case measure=>omega
    case rel=>exact⟨5,by simp,by omega,by omega,U⟩
  ·clear K
   have hB:=h.body
   have hO:=h.other
   rcases (Bool.eq_false_or_eq_true g.body).symm with gB|gB<;> rcases (Bool.eq_false_or_eq_true g.other).symm with gO|gO
   ·rw [gB,gO] at F
    have f6:wr.cell? ⟨kf,6,none⟩=some (.bool false):=(cell_blk F _).trans rfl
    have f7:wr.cell? ⟨kf,7,none⟩=some (.bool false):=(cell_blk F _).trans rfl
    have z6:wr.cell? ⟨ks,6,none⟩=some (.slice A6 s.body.length c6):=s6.trans (congrArg some (show x6=_ from hx6))
    have z7:wr.cell? ⟨ks,7,none⟩=some (.slice A7 s.els.length c7):=s7.trans (congrArg some (show x7=_ from hx7))
    have e6:=hB gB
    rw [e6] at z6
    have e7:=hO gO
    rw [e7] at z7
    have bl:=U.below
    clear F gB gO hB hO s6 s7 U
    go_wp2_with fail
    exact bodyPost_ret (v:= .bool true) (by simp [results,Tryz.results145,go_sem]) rfl ⟨rfl,bl⟩
   ·rw [gB,gO] at F
    have f6:wr.cell? ⟨kf,6,none⟩=some (.bool false):=(cell_blk F _).trans rfl
    have f7:wr.cell? ⟨kf,7,none⟩=some (.bool true):=(cell_blk F _).trans rfl
    have z6:wr.cell? ⟨ks,6,none⟩=some (.slice A6 s.body.length c6):=s6.trans (congrArg some (show x6=_ from hx6))
    have z7:wr.cell? ⟨ks,7,none⟩=some (.slice A7 s.els.length c7):=s7.trans (congrArg some (show x7=_ from hx7))
    have e6:=hB gB
    rw [e6] at z6
    have bl:=U.below
    clear F gB gO hB hO s6 s7 U
    go_wp2_with fail
    exact bodyPost_ret (v:= .bool true) (by simp [results,Tryz.results145,go_sem]) rfl ⟨rfl,bl⟩
   ·rw [gB,gO] at F
    have f6:wr.cell? ⟨kf,6,none⟩=some (.bool true):=(cell_blk F _).trans rfl
    have f7:wr.cell? ⟨kf,7,none⟩=some (.bool false):=(cell_blk F _).trans rfl
    have z6:wr.cell? ⟨ks,6,none⟩=some (.slice A6 s.body.length c6):=s6.trans (congrArg some (show x6=_ from hx6))
    have z7:wr.cell? ⟨ks,7,none⟩=some (.slice A7 s.els.length c7):=s7.trans (congrArg some (show x7=_ from hx7))
    have e7:=hO gO
    rw [e7] at z7
    have bl:=U.below
    clear F gB gO hB hO s6 s7 U
    go_wp2_with fail
    exact bodyPost_ret (v:= .bool true) (by simp [results,Tryz.results145,go_sem]) rfl ⟨rfl,bl⟩
   ·rw [gB,gO] at F
    have f6:wr.cell? ⟨kf,6,none⟩=some (.bool true):=(cell_blk F _).trans rfl
    have f7:wr.cell? ⟨kf,7,none⟩=some (.bool true):=(cell_blk F _).trans rfl
    have z6:wr.cell? ⟨ks,6,none⟩=some (.slice A6 s.body.length c6):=s6.trans (congrArg some (show x6=_ from hx6))
    have z7:wr.cell? ⟨ks,7,none⟩=some (.slice A7 s.els.length c7):=s7.trans (congrArg some (show x7=_ from hx7))
    have bl:=U.below
    clear F gB gO hB hO s6 s7 U
    go_wp2_with fail
    exact bodyPost_ret (v:= .bool true) (by simp [results,Tryz.results145,go_sem]) rfl ⟨rfl,bl⟩
theorem src_number (w:World)(q n:Int)(s:Al.Stmt)(x6 x7:Value)(hq:0<=q/\q<8388608)(h:Al.numOk q s=true):Calls Tryz.prog 146 #[.agg #[.int .i64 q,.int .i64 n],.agg (stmtV s x6 x7)] w fun e w'=>e= .returned (.bool true)/\Below w.heap.size w w':=by
 have hb:=alloc_two w (.cells #[.int .i64 q,.int .i64 n] 23) (.cells (stmtV s x6 x7) 66)
 unfold stmtV at hb
 unfold Al.numOk at h
 cases s with|mk op d a b c k body els=>
 dsimp only at h hb
 by_cases h6:op=6
 ·subst h6
  simp at h
  obtain⟨k0,k1⟩:=h
  have t0:decide (0<=k)=true:=decide_eq_true k0
  have t1:decide (k<q)=true:=decide_eq_true k1
  unfold stmtV
  go_enter Tryz.func146,Tryz.ntmps146
  go_wp2_with fail
  exact bodyPost_ret (v:= .bool true) (by simp [results,Tryz.results146,go_sem, *]) rfl ⟨rfl,by first|exact hb|exact Go.Proofs.YtkplfaionpplaaaGreatDoorW.PrintWords.pw_below_drewN hb _⟩
 by_cases h8:op=8
 ·subst h8
  simp at h
  obtain⟨k0,k1,k2⟩:=h
  have hk:((k.toNat:Nat):Int)=k:=by omega
  have t0:decide (1<=k)=true:=decide_eq_true k0
  have t1:decide (k<=30)=true:=decide_eq_true k1
  have t2:decide ((2:Int) ^ k.toNat<q)=true:=decide_eq_true k2
  have t3:¬k<0:=by omega
  have t4:wrap64 (2 ^ k.toNat)=2 ^ k.toNat:=by have:=one_le_pow2 k.toNat;unfold wrap64;omega
  unfold stmtV
  go_enter Tryz.func146,Tryz.ntmps146
  go_wp2_with fail
  go_big_quiet (fail)
  go_wp2_with fail
  exact bodyPost_ret (v:= .bool true) (by simp [results,Tryz.results146,go_sem, *]) rfl ⟨rfl,by first|exact hb|exact Go.Proofs.YtkplfaionpplaaaGreatDoorW.PrintWords.pw_below_drewN hb _⟩
 by_cases h9:op=9
 ·subst h9
  simp at h
  obtain⟨k0,k1,k2⟩:=h
  have hk:((k.toNat:Nat):Int)=k:=by omega
  have t0:decide (1<=k)=true:=decide_eq_true k0
  have t1:decide (k<=30)=true:=decide_eq_true k1
  have t2:decide ((2:Int) ^ k.toNat<q)=true:=decide_eq_true k2
  have t3:¬k<0:=by omega
  have t4:wrap64 (2 ^ k.toNat)=2 ^ k.toNat:=by have:=one_le_pow2 k.toNat;unfold wrap64;omega
  unfold stmtV
  go_enter Tryz.func146,Tryz.ntmps146
  go_wp2_with fail
  go_big_quiet (fail)
  go_wp2_with fail
  exact bodyPost_ret (v:= .bool true) (by simp [results,Tryz.results146,go_sem, *]) rfl ⟨rfl,by first|exact hb|exact Go.Proofs.YtkplfaionpplaaaGreatDoorW.PrintWords.pw_below_drewN hb _⟩
 by_cases h11:op=11
 ·subst h11
  simp at h
  obtain⟨k0,k1⟩:=h
  have t0:decide (0<=k)=true:=decide_eq_true k0
  have t1:decide (k<=q)=true:=decide_eq_true k1
  unfold stmtV
  go_enter Tryz.func146,Tryz.ntmps146
  go_wp2_with fail
  exact bodyPost_ret (v:= .bool true) (by simp [results,Tryz.results146,go_sem, *]) rfl ⟨rfl,by first|exact hb|exact Go.Proofs.YtkplfaionpplaaaGreatDoorW.PrintWords.pw_below_drewN hb _⟩
 by_cases h15:op=15
 ·subst h15
  simp at h
  obtain⟨k0,k1⟩:=h
  have t0:decide (1<=k)=true:=decide_eq_true k0
  have t1:decide (k<=50)=true:=decide_eq_true k1
  unfold stmtV
  go_enter Tryz.func146,Tryz.ntmps146
  go_wp2_with fail
  exact bodyPost_ret (v:= .bool true) (by simp [results,Tryz.results146,go_sem, *]) rfl ⟨rfl,by first|exact hb|exact Go.Proofs.YtkplfaionpplaaaGreatDoorW.PrintWords.pw_below_drewN hb _⟩
 by_cases h16:op=16
 ·subst h16
  simp at h
  obtain⟨k0,k1⟩:=h
  have t0:decide (1<=k)=true:=decide_eq_true k0
  have t1:decide (k<=50)=true:=decide_eq_true k1
  unfold stmtV
  go_enter Tryz.func146,Tryz.ntmps146
  go_wp2_with fail
  exact bodyPost_ret (v:= .bool true) (by simp [results,Tryz.results146,go_sem, *]) rfl ⟨rfl,by first|exact hb|exact Go.Proofs.YtkplfaionpplaaaGreatDoorW.PrintWords.pw_below_drewN hb _⟩
 unfold stmtV
 go_enter Tryz.func146,Tryz.ntmps146
 have z6:decide (op=6)=false:=decide_eq_false h6
 have z8:decide (op=8)=false:=decide_eq_false h8
 have z9:decide (op=9)=false:=decide_eq_false h9
 have z11:decide (op=11)=false:=decide_eq_false h11
 have z15:decide (op=15)=false:=decide_eq_false h15
 have z16:decide (op=16)=false:=decide_eq_false h16
 go_wp2_with fail
 exact bodyPost_ret (v:= .bool true) (by simp [results,Tryz.results146,go_sem, *]) rfl ⟨rfl,by first|exact hb|exact Go.Proofs.YtkplfaionpplaaaGreatDoorW.PrintWords.pw_below_drewN hb _⟩
end Go.Proofs.YtkplfaionpplaaaGreatDoor
namespace Go.Proofs.YtkplfaionpplaaaGreatDoor.Al
theorem oneF_shape {q:Int}{vars:List Var}{s:Stmt}{g:Has}(h:oneF q vars s=0)(hg:hasOf s.op=some g):
  (g.d=false->s.d=0)/\(g.a=false->s.a=0)/\(g.b=false->s.b=0)/\(g.c=false->s.c=0)/\(g.k=false->s.k=0)/\(g.body=false->s.body=[])/\(g.other=false->s.els=[]):=by
 unfold oneF at h
 rw [hg] at h
 dsimp only at h
 obtain⟨_,h⟩:=ite_zero h (by decide)
 obtain⟨h1,h⟩:=ite_zero h (by decide)
 simp only [Bool.or_eq_true,Bool.and_eq_true,Bool.not_eq_true',not_or,not_and,bne_iff_ne,ne_eq,Decidable.not_not,List.isEmpty_iff,Bool.not_eq_eq_eq_not,Bool.not_true,Bool.not_false] at h1
 obtain⟨⟨⟨⟨⟨⟨h1,h2⟩,h3⟩,h4⟩,h5⟩,h6⟩,h7⟩:=h1
 refine⟨h1,h2,h3,h4,h5,fun h=>?_,fun h=>?_⟩
 ·have:=h6 h;cases hb:s.body with
  |nil=>rfl
  |cons _ _=>rw [hb] at this;simp at this
 ·have:=h7 h;cases hb:s.els with
  |nil=>rfl
  |cons _ _=>rw [hb] at this;simp at this
end Go.Proofs.YtkplfaionpplaaaGreatDoor.Al
namespace Go.Proofs.YtkplfaionpplaaaGreatDoor
open Go.RowKit
structure OB (w:World)(kp ks kf:Nat)(q n:Int)(nv:Nat)(Va:Option Addr)(vc:Nat)(xb:Value)(s:Al.Stmt)(x6 x7:Value)(word:ByteArray)(g:Al.Has):Prop where
 p:w.heap[kp]?=some (.cells #[.int .i64 q,.int .i64 n,.slice Va nv vc,xb] 27 (0,0))
 s:SB w ks s x6 x7
 f:w.heap[kf]?=some (.cells #[.string word,.bool g.d,.bool g.a,.bool g.b,.bool g.c,.bool g.k,.bool g.body,.bool g.other] 192 (0,0))
section
variable {w w':World} {kp ks kf:Nat} {q n:Int} {nv:Nat} {Va:Option Addr} {vc:Nat} {xb:Value} {s:Al.Stmt} {x6 x7:Value} {word:ByteArray} {g:Al.Has}
theorem OB.below (h:OB w kp ks kf q n nv Va vc xb s x6 x7 word g){B:Nat}(hb:Below B w w')(hB:w.heap.size<=B):OB w' kp ks kf q n nv Va vc xb s x6 x7 word g:=
 ⟨below_blk hb h.p (Nat.lt_of_lt_of_le (blk_lt h.p) hB),below_blk hb h.s (Nat.lt_of_lt_of_le (blk_lt h.s) hB),below_blk hb h.f (Nat.lt_of_lt_of_le (blk_lt h.f) hB)⟩
theorem OB.alloc (h:OB w kp ks kf q n nv Va vc xb s x6 x7 word g)(o:Obj):OB (w.alloc o) kp ks kf q n nv Va vc xb s x6 x7 word g:=
 ⟨alloc_blk _ h.p,alloc_blk _ h.s,alloc_blk _ h.f⟩
theorem OB.grow (h:OB w kp ks kf q n nv Va vc xb s x6 x7 word g){base:Nat}{v:Value}{l:List Int}{size:Nat}{xs:List Value}(hown:w.ownsRow base 3 size v l.length xs)(hg:w.grownBy w' v.ownBlock):OB w' kp ks kf q n nv Va vc xb s x6 x7 word g:=
 ⟨grow_blk hg h.p (own_ne_blk hown h.p (by decide)),grow_blk hg h.s (own_ne_blk hown h.s (by decide)),grow_blk hg h.f (own_ne_blk hown h.f (by decide))⟩
end
theorem src_one {w:World}{q n:Int}{vars:List Al.Var}{Va:Option Addr}{vc:Nat}{xb:Value}(hv:kVar.C w Va vars.length vars)(hvl:vars.length<=12)(s:Al.Stmt){A6 A7:Option Addr}{c6 c7:Nat}(hq:0<=q/\q<8388608)(h:Al.oneF q vars s=0):
  Calls Tryz.prog 107 #[.agg #[.int .i64 q,.int .i64 n,.slice Va vars.length vc,xb],.agg (stmtV s (.slice A6 s.body.length c6) (.slice A7 s.els.length c7))] w fun e w'=>e= .returned Value.nilIface/\Below w.heap.size w w':=by
 obtain⟨g,hg,hrange,hnum,hkind⟩:=Al.oneF_parts h
 obtain⟨sh1,sh2,sh3,sh4,sh5,sh6,sh7⟩:=Al.oneF_shape h hg
 have hsh:ShapeOk g s:=⟨sh1,sh2,sh3,sh4,sh5,sh6,sh7⟩
 clear h sh1 sh2 sh3 sh4 sh5 sh6 sh7
 obtain⟨j0,hj0,jz0,jz1,jz2⟩:=info_parts Tryz.infoInt
 obtain⟨x6,hx6⟩:∃ x6,x6=Value.slice A6 s.body.length c6:=⟨_,rfl⟩
 obtain⟨x7,hx7⟩:∃ x7,x7=Value.slice A7 s.els.length c7:=⟨_,rfl⟩
 rw [<-hx6,<-hx7]
 replace hx6:=Lib.hid hx6
 replace hx7:=Lib.hid hx7
 obtain⟨W,hW⟩:∃ W,W=(w.alloc (.cells #[.int .i64 q,.int .i64 n,.slice Va vars.length vc,xb] 27)).alloc (.cells (stmtV s x6 x7) 66):=⟨_,rfl⟩
 obtain⟨kp,hkp⟩:∃ kp,kp=w.heap.size:=⟨_,rfl⟩
 obtain⟨ks,hks⟩:∃ ks,ks=kp+1:=⟨_,rfl⟩
 have hb0:Below w.heap.size w W:=by rw [hW];exact alloc_two _ _ _
 have hp0:W.heap[kp]?=some (.cells #[.int .i64 q,.int .i64 n,.slice Va vars.length vc,xb] 27 (0,0)):=by rw [hW,hkp];exact alloc_blk _ (heap_alloc_new w _)
 have h0:SB W ks s x6 x7:=by rw [hW,hks,hkp];exact alloc_at _ _ _
 have hkl:ks<W.heap.size:=blk_lt h0
 have hpl:kp<W.heap.size:=blk_lt hp0
 go_enter Tryz.func107,Tryz.ntmps107
 unfold stmtV
 go_wp2_with fail
 have hWu:W=(w.alloc (.cells #[.int .i64 q,.int .i64 n,.slice Va vars.length vc,xb] 27)).alloc (.cells #[.int .i64 s.op,.int .i64 s.d,.int .i64 s.a,.int .i64 s.b,.int .i64 s.c,.int .i64 s.k,x6,x7] 66):=hW
 rw [<-hWu]
 simp only [<-hkp,<-hks]
 replace hks:=Lib.hid hks
 replace hkp:=Lib.hid hkp
 clear hW hWu
 have HF:=src_of W s.op hg
 unfold formV at HF
 go_wp2_with (first|(go_at_call 142;refine HF.mono ?_;rintro e w1 ⟨word,rfl,hb1⟩;have h1:=h0.below hb1 hkl;have hp1:=below_blk hb1 hp0 hpl;have v1:=fun o=>SB.cells (show SB (w1.alloc o) ks s x6 x7 from alloc_blk _ h1);have v10:=fun o=>(v1 o).1;have v11:=fun o=>(v1 o).2.1;have v12:=fun o=>(v1 o).2.2.1;have v13:=fun o=>(v1 o).2.2.2.1;have v14:=fun o=>(v1 o).2.2.2.2.1;have v15:=fun o=>(v1 o).2.2.2.2.2.1;have v16:=fun o=>(v1 o).2.2.2.2.2.2.1;have v17:=fun o=>(v1 o).2.2.2.2.2.2.2))
 clear HF v1 v10 v11 v12 v13 v14 v15 v16 v17
 obtain⟨kf,hkf⟩:∃ kf,kf=w1.heap.size:=⟨_,rfl⟩
 obtain⟨W1,hW1⟩:∃ W1,W1=w1.alloc (.cells #[.string word,.bool g.d,.bool g.a,.bool g.b,.bool g.c,.bool g.k,.bool g.body,.bool g.other] 192):=⟨_,rfl⟩
 have hb2:Below w.heap.size w W1:=by rw [hW1];exact (hb0.trans (lower_below hb1 hb0.size)).alloc (Nat.le_trans hb0.size hb1.size) _
 have h2:SB W1 ks s x6 x7:=by rw [hW1];exact alloc_blk _ h1
 have hp2:W1.heap[kp]?=some (.cells #[.int .i64 q,.int .i64 n,.slice Va vars.length vc,xb] 27 (0,0)):=by rw [hW1];exact alloc_blk _ hp1
 have hf2:W1.heap[kf]?=some (.cells #[.string word,.bool g.d,.bool g.a,.bool g.b,.bool g.c,.bool g.k,.bool g.body,.bool g.other] 192 (0,0)):=by rw [hW1,hkf];exact heap_alloc_new _ _
 rw [<-hW1]
 simp only [<-hkf]
 replace hkf:=Lib.hid hkf
 clear hW1 hb0 hb1 hp0 hp1 h0 h1 hkl hpl
 have O1:OB W1 kp ks kf q n vars.length Va vc xb s x6 x7 word g:=⟨hp2,h2,hf2⟩
 clear hp2 h2 hf2
 obtain⟨L,hL⟩:∃ L,L=Al.usesOf s:=⟨_,rfl⟩
 obtain⟨L2,hL2⟩:∃ L2,L2=Al.usesOf s++(if g.d=true then [s.d] else []):=⟨_,rfl⟩
 rw [<-hL2] at hrange
 rw [<-hL] at hL2
 have hLl:L.length<=3:=by
  rw [hL];unfold Al.usesOf;rw [hg]
  simp only [List.length_append]
  (repeat' split)<;> simp
 have HU:=src_uses W1 s x6 x7 hg
 rw [<-hL] at HU
 have HW:=fun w0=>src_writes w0 s x6 x7 hg
 unfold stmtV at HU HW
 have NU:=src_number
 replace hL:=Lib.hid hL
 obtain⟨z0,z1,z2,z3,z4,z5,z6,z7⟩:=SB.cells O1.s
 go_wp2_with (first|(go_at_call 143;refine HU.mono ?_;rintro e w2 ⟨v,rfl,hown,hb3⟩;obtain⟨av,cv,rfl⟩:=own_slice hown;have O2:=O1.below hb3 (Nat.le_refl _);clear z0 z1 z2 z3 z4 z5 z6 z7;obtain⟨z0,z1,z2,z3,z4,z5,z6,z7⟩:=SB.cells O2.s))
 have hb4:Below w.heap.size w w2:=hb2.trans (lower_below hb3 hb2.size)
 have hown2:=own_base hown hb2.size
 clear HU O1 hb3 hb2 hown
 clear z0 z1 z2 z3 z4 z5 z6 z7
 have hL2l:L2.length<=4:=by rw [hL2];simp only [List.length_append];split<;> simp<;> omega
 rcases (Bool.eq_false_or_eq_true g.d).symm with hgd|hgd
 ·rw [hgd] at hL2
  simp only [if_true,if_false,Bool.false_eq_true,List.append_nil] at hL2
  simp only [hgd,if_true,if_false,Bool.false_eq_true] at HW
  subst hL2
  replace hgd:=Lib.hid hgd
  clear hkind
  go_wp2_with (first|(go_at_call 144;refine (HW _).mono ?_;rintro e w4 ⟨rfl,hb5⟩;have O4:=O2.below hb5 (Nat.le_refl _);have hown4:=own_of hown2 fun k hk=>hb5.block k (hown2.lt k hk).2;have hb8:=hb4.trans (lower_below hb5 hb4.size)))
  clear O2 HW hb4 hb5 hown2
  have I4:=own_ints hown4
  have hw8:=hb8.size
  clear hown4
  go_loopg [11,35] (L2.length+1) (fun gk v11 v35 w'=>∃ j:Nat,v35= .int .i64 j/\j+gk=L2.length+1/\j<=L2.length/\w'=w4)
  case atStart=>exact⟨0,rfl,by omega,by omega,rfl⟩
  case round=>
   obtain⟨j,rfl,hj,hj2,hww⟩:=hrel
   subst hww
   have p0:wr.cell? ⟨kp,0,none⟩=some (.int .i64 q):=(cell_blk O4.p _).trans rfl
   have p1:wr.cell? ⟨kp,1,none⟩=some (.int .i64 n):=(cell_blk O4.p _).trans rfl
   have p2:wr.cell? ⟨kp,2,none⟩=some (.slice Va vars.length vc):=(cell_blk O4.p _).trans rfl
   by_cases hjl:j<L2.length
   ·obtain⟨k1,rfl⟩:∃ k1,gk=k1+1:=⟨gk - 1,by omega⟩
    have hr:=hrange L2[j] (List.getElem_mem hjl)
    obtain⟨ag,he,hcell⟩:∃ ag,av=some ⟨ag,0,none⟩/\wr.cell? ⟨ag,j,none⟩=some (.int .i64 L2[j]):=by
     rcases I4 with⟨h,h0⟩|⟨g,c,cur,h,h1,h2⟩
     ·subst h0;simp at hjl
     ·simp only [Value.slice.injEq,true_and] at h
      exact⟨g,h.1,by rw [cell_blk h1,h2 j hjl]⟩
    obtain⟨x,hx⟩:∃ x,x=L2[j]:=⟨_,rfl⟩
    rw [<-hx] at hr hcell
    replace hx:=Lib.hid hx
    subst he
    have t1:decide ((j:Int)<(L2.length:Int))=true:=by simp;omega
    have t2:(0:Int)<=(j:Int):=by omega
    have t3:(j:Int)<(L2.length:Int):=by omega
    have t4:decide (x<0)=false:=decide_eq_false (by omega)
    have t5:decide ((vars.length:Int)<=x)=false:=decide_eq_false (by omega)
    clear I4
    go_wp2_with fail
    go_roundg k1
    case measure=>omega
    case rel=>exact⟨j+1,by simp,by omega,by omega,rfl⟩
   ·have hje:j=L2.length:=by omega
    have t1:decide ((j:Int)<(L2.length:Int))=false:=by simp;omega
    have HSH:=src_shape wr s (A6:=A6) (A7:=A7) (c6:=c6) (c7:=c7) word hsh
    rw [<-(show x6=_ from hx6),<-(show x7=_ from hx7)] at HSH
    unfold stmtV formV at HSH
    have HN:=fun w0=>src_number w0 q n s x6 x7 hq hnum
    unfold stmtV at HN
    rw [show g.d=false from hgd] at HSH
    obtain⟨z0,z1,z2,z3,z4,z5,z6,z7⟩:=SB.cells O4.s
    have O4f:=O4.f
    rw [show g.d=false from hgd] at O4f
    have y0:wr.cell? ⟨kf,0,none⟩=some (.string word):=(cell_blk O4f _).trans rfl
    have y1:wr.cell? ⟨kf,1,none⟩=some (.bool false):=(cell_blk O4f _).trans rfl
    have y2:wr.cell? ⟨kf,2,none⟩=some (.bool g.a):=(cell_blk O4f _).trans rfl
    have y3:wr.cell? ⟨kf,3,none⟩=some (.bool g.b):=(cell_blk O4f _).trans rfl
    have y4:wr.cell? ⟨kf,4,none⟩=some (.bool g.c):=(cell_blk O4f _).trans rfl
    have y5:wr.cell? ⟨kf,5,none⟩=some (.bool g.k):=(cell_blk O4f _).trans rfl
    have y6:wr.cell? ⟨kf,6,none⟩=some (.bool g.body):=(cell_blk O4f _).trans rfl
    have y7:wr.cell? ⟨kf,7,none⟩=some (.bool g.other):=(cell_blk O4f _).trans rfl
    clear I4
    go_wp2_with (first|(go_at_call 145;refine HSH.mono ?_;rintro e w5 ⟨rfl,hb9⟩;have O5:=O4.below hb9 (Nat.le_refl _);clear z0 z1 z2 z3 z4 z5 z6 z7 p0 p1 p2 y0 y1 y2 y3 y4 y5 y6 y7;obtain⟨z0,z1,z2,z3,z4,z5,z6,z7⟩:=SB.cells O5.s;have p0:w5.cell? ⟨kp,0,none⟩=some (.int .i64 q):=(cell_blk O5.p _).trans rfl;have p1:w5.cell? ⟨kp,1,none⟩=some (.int .i64 n):=(cell_blk O5.p _).trans rfl;have p2:w5.cell? ⟨kp,2,none⟩=some (.slice Va vars.length vc):=(cell_blk O5.p _).trans rfl;have hb10:=hb8.trans (lower_below hb9 hb8.size))|(go_at_call 146;refine (HN _).mono ?_;rintro e w6 ⟨rfl,hb11⟩))
    exact bodyPost_ret (v:=Value.nilIface) (by simp [results,Tryz.results107,go_sem]) rfl ⟨rfl,hb10.trans (lower_below hb11 hb10.size)⟩
 ·rw [hgd] at hL2
  simp only [if_true,if_false,Bool.false_eq_true] at hL2
  simp only [hgd,if_true,if_false,Bool.false_eq_true] at HW
  have hkd:=hkind hgd
  have hdr:=hrange s.d (by rw [hL2];simp)
  have hnl:L2.length=L.length+1:=by rw [hL2];simp
  replace hL2:=Lib.hid hL2
  replace hnl:=Lib.hid hnl
  replace hgd:=Lib.hid hgd
  clear hkind
  go_wp2_with (first|(go_at_call 144;refine (HW _).mono ?_;rintro e w3 ⟨rfl,hb5⟩;have O3:=O2.below hb5 (Nat.le_refl _);have hown3:=own_of hown2 fun k hk=>hb5.block k (hown2.lt k hk).2;have hb6:=hb4.trans (lower_below hb5 hb4.size);have hsz:=hb6.size;have nb:=heap_alloc_new w3 (.cells #[.int .i64 s.d] 3);have ha:=hown3.alloc (.cells #[.int .i64 s.d] 3))|(at_builtin;refine wpList_append_own_at _ rfl (.tmp 29) (.tmp 31) 86 rfl w.heap.size 3 j0 _ 1 8 Tryz.underlying86 hj0 jz0 jz1 jz2 rfl (by omega) _ _ _ rfl ha ⟨w3.heap.size,0,none⟩ 1 1 [.int .i64 s.d] rfl rfl (World.news_of_block nb) (by simp [Value.oneCell']) (by unfold maxLen;omega) (by omega) (by simp;omega) ?_;intro v2 w4 hown3' hgrow hnil hat;obtain⟨av,cv,rfl⟩:=own_slice hown3';rw [<-(show L2.length=_ from hnl)] at hown3' ⊢;have hown4:w4.ownsRow w.heap.size 3 1 (.slice av L2.length cv) L2.length (intsV L2):=by { rw [show L2=_ from hL2];rw [show L2=_ from hL2] at hown3';simpa [intsV] using hown3'};have O4:=(O3.alloc _).grow ha hgrow;have hb8:=below_grown (hb6.alloc hb6.size _) hgrow (fun k hk=>(ha.lt k hk).1) (by simp;omega)))
  clear O2 O3 HW hb4 hb5 hown2 hown3 hb6 ha hgrow hown3' nb hnil hat
  have I4:=own_ints hown4
  have hw8:=hb8.size
  clear hown4
  go_loopg [11,35] (L2.length+1) (fun gk v11 v35 w'=>∃ j:Nat,v35= .int .i64 j/\j+gk=L2.length+1/\j<=L2.length/\w'=w4)
  case atStart=>exact⟨0,rfl,by omega,by omega,rfl⟩
  case round=>
   obtain⟨j,rfl,hj,hj2,hww⟩:=hrel
   subst hww
   have p0:wr.cell? ⟨kp,0,none⟩=some (.int .i64 q):=(cell_blk O4.p _).trans rfl
   have p1:wr.cell? ⟨kp,1,none⟩=some (.int .i64 n):=(cell_blk O4.p _).trans rfl
   have p2:wr.cell? ⟨kp,2,none⟩=some (.slice Va vars.length vc):=(cell_blk O4.p _).trans rfl
   by_cases hjl:j<L2.length
   ·obtain⟨k1,rfl⟩:∃ k1,gk=k1+1:=⟨gk - 1,by omega⟩
    have hr:=hrange L2[j] (List.getElem_mem hjl)
    obtain⟨ag,he,hcell⟩:∃ ag,av=some ⟨ag,0,none⟩/\wr.cell? ⟨ag,j,none⟩=some (.int .i64 L2[j]):=by
     rcases I4 with⟨h,h0⟩|⟨g,c,cur,h,h1,h2⟩
     ·subst h0;simp at hjl
     ·simp only [Value.slice.injEq,true_and] at h
      exact⟨g,h.1,by rw [cell_blk h1,h2 j hjl]⟩
    obtain⟨x,hx⟩:∃ x,x=L2[j]:=⟨_,rfl⟩
    rw [<-hx] at hr hcell
    replace hx:=Lib.hid hx
    subst he
    have t1:decide ((j:Int)<(L2.length:Int))=true:=by simp;omega
    have t2:(0:Int)<=(j:Int):=by omega
    have t3:(j:Int)<(L2.length:Int):=by omega
    have t4:decide (x<0)=false:=decide_eq_false (by omega)
    have t5:decide ((vars.length:Int)<=x)=false:=decide_eq_false (by omega)
    clear I4
    go_wp2_with fail
    go_roundg k1
    case measure=>omega
    case rel=>exact⟨j+1,by simp,by omega,by omega,rfl⟩
   ·have hje:j=L2.length:=by omega
    have t1:decide ((j:Int)<(L2.length:Int))=false:=by simp;omega
    have HSH:=src_shape wr s (A6:=A6) (A7:=A7) (c6:=c6) (c7:=c7) word hsh
    rw [<-(show x6=_ from hx6),<-(show x7=_ from hx7)] at HSH
    unfold stmtV formV at HSH
    have HN:=fun w0=>src_number w0 q n s x6 x7 hq hnum
    unfold stmtV at HN
    rw [show g.d=true from hgd] at HSH
    obtain⟨z0,z1,z2,z3,z4,z5,z6,z7⟩:=SB.cells O4.s
    have O4f:=O4.f
    rw [show g.d=true from hgd] at O4f
    have y0:wr.cell? ⟨kf,0,none⟩=some (.string word):=(cell_blk O4f _).trans rfl
    have y1:wr.cell? ⟨kf,1,none⟩=some (.bool true):=(cell_blk O4f _).trans rfl
    have y2:wr.cell? ⟨kf,2,none⟩=some (.bool g.a):=(cell_blk O4f _).trans rfl
    have y3:wr.cell? ⟨kf,3,none⟩=some (.bool g.b):=(cell_blk O4f _).trans rfl
    have y4:wr.cell? ⟨kf,4,none⟩=some (.bool g.c):=(cell_blk O4f _).trans rfl
    have y5:wr.cell? ⟨kf,5,none⟩=some (.bool g.k):=(cell_blk O4f _).trans rfl
    have y6:wr.cell? ⟨kf,6,none⟩=some (.bool g.body):=(cell_blk O4f _).trans rfl
    have y7:wr.cell? ⟨kf,7,none⟩=some (.bool g.other):=(cell_blk O4f _).trans rfl
    clear I4
    obtain⟨ad,rfl,kk,_⟩:=at_T901 (Go.Proofs.YtkplfaionpplaaaGreatDoorW.PrintWords.Kd.C_below hv (Below.refl _ _)) s.d hdr.1 hdr.2
    have hd0:=hdr.1
    have hd1:=hdr.2
    have kd:=fun (w0:World) (hb:Below w.heap.size w w0)=>cell_since hb kk
    have kn:decide ((rd_T901 vars s.d).kind=1)=false:=decide_eq_false hkd
    have kn1:¬(rd_T901 vars s.d).kind=1:=hkd
    have kn2:((rd_T901 vars s.d).kind == 1)=false:=beq_false_of_ne kn1
    go_wp2_with (first|(go_at_call 145;refine HSH.mono ?_;rintro e w5 ⟨rfl,hb9⟩;have O5:=O4.below hb9 (Nat.le_refl _);clear z0 z1 z2 z3 z4 z5 z6 z7 p0 p1 p2 y0 y1 y2 y3 y4 y5 y6 y7;obtain⟨z0,z1,z2,z3,z4,z5,z6,z7⟩:=SB.cells O5.s;have p0:w5.cell? ⟨kp,0,none⟩=some (.int .i64 q):=(cell_blk O5.p _).trans rfl;have p1:w5.cell? ⟨kp,1,none⟩=some (.int .i64 n):=(cell_blk O5.p _).trans rfl;have p2:w5.cell? ⟨kp,2,none⟩=some (.slice (some ad) vars.length vc):=(cell_blk O5.p _).trans rfl;have hb10:=hb8.trans (lower_below hb9 hb8.size);have kd5:=kd w5 hb10)|(go_at_call 146;refine (HN _).mono ?_;rintro e w6 ⟨rfl,hb11⟩))
    exact bodyPost_ret (v:=Value.nilIface) (by simp [results,Tryz.results107,go_sem]) rfl ⟨rfl,hb10.trans (lower_below hb11 hb10.size)⟩
end Go.Proofs.YtkplfaionpplaaaGreatDoor
