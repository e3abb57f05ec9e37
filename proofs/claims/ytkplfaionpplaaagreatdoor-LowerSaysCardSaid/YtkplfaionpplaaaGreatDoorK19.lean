/- Part 19: B96, B97, P42, B100, P43. -/
import Derived.Test.YtkplfaionpplaaaGreatDoorK18
set_option maxRecDepth 100000
set_option maxHeartbeats 6400000
set_option linter.unusedVariables false
set_option linter.unusedSimpArgs false
namespace Go.Proofs.YtkplfaionpplaaaGreatDoor
open Go.RowKit
def okAt (g:Al.Has)(s:Al.Stmt):Nat->Prop
 |0=>g.d=false->s.d=0
 |1=>g.a=false->s.a=0
 |2=>g.b=false->s.b=0
 |3=>g.c=false->s.c=0
 |_=>g.k=false->s.k=0
theorem okAt_step {g:Al.Has}{s:Al.Stmt}{j:Nat}(h:∀ i,i<j->okAt g s i)(hj:okAt g s j):∀ i,i<j+1->okAt g s i:=fun i hi=>by
 by_cases e:i=j
 ·rw [e];exact hj
 ·exact h i (by omega)
theorem src_shape_no (w:World)(s:Al.Stmt){A6 A7:Option Addr}{c6 c7:Nat}{g:Al.Has}(word:ByteArray)(h:¬ShapeOk g s):Calls Tryz.prog 145 #[.agg (stmtV s (.slice A6 s.body.length c6) (.slice A7 s.els.length c7)),formV (.string word) g] w fun e w'=>e= .returned (.bool false)/\Below w.heap.size w w':=by
 obtain⟨x6,hx6⟩:∃ x6,x6=Value.slice A6 s.body.length c6:=⟨_,rfl⟩
 obtain⟨x7,hx7⟩:∃ x7,x7=Value.slice A7 s.els.length c7:=⟨_,rfl⟩
 rw [<-hx6,<-hx7]
 replace hx6:=Lib.hid hx6
 replace hx7:=Lib.hid hx7
 obtain⟨W3,hW3⟩:∃ W3,W3=((w.alloc (.cells (stmtV s x6 x7) 66)).alloc (.cells #[.string word,.bool g.d,.bool g.a,.bool g.b,.bool g.c,.bool g.k,.bool g.body,.bool g.other] 192)).alloc (.cells #[.bool g.d,.bool g.a,.bool g.b,.bool g.c,.bool g.k] 4):=⟨_,rfl⟩
 obtain⟨ks,hks⟩:∃ ks,ks=w.heap.size:=⟨_,rfl⟩
 obtain⟨kf,hkf⟩:∃ kf,kf=ks+1:=⟨_,rfl⟩
 obtain⟨kb,hkb⟩:∃ kb,kb=kf+1:=⟨_,rfl⟩
 have U0:SI w W3 ks kf kb s x6 x7 word g:=by
  rw [hW3,hkb,hkf,hks]
  exact⟨alloc_blk _ (alloc_blk _ (heap_alloc_new w _)),alloc_blk _ (alloc_at _ _ _),alloc_three _ _ _ _,(alloc_two w _ _).alloc (by simp;omega) _⟩
 go_enter Tryz.func145,Tryz.ntmps145
 unfold stmtV formV
 go_wp2_with fail
 have hWu:W3=((w.alloc (.cells #[.int .i64 s.op,.int .i64 s.d,.int .i64 s.a,.int .i64 s.b,.int .i64 s.c,.int .i64 s.k,x6,x7] 66)).alloc (.cells #[.string word,.bool g.d,.bool g.a,.bool g.b,.bool g.c,.bool g.k,.bool g.body,.bool g.other] 192)).alloc (.cells #[.bool g.d,.bool g.a,.bool g.b,.bool g.c,.bool g.k] 4):=hW3
 rw [<-hWu]
 simp only [<-hks,<-hkf,<-hkb]
 replace U0:=Lib.hid U0
 clear hWu hW3 hks hkf hkb
 have HO0:Hid (∀ i,i<0->okAt g s i):=Lib.hid (fun i hi=>by omega)
 replace h:=Lib.hid h
 go_loopg [5,6,19] 6 (fun gk v5 v6 v19 w'=>∃ j:Nat,v19= .int .i64 j/\j+gk=6/\j<=5/\Hid (∀ i,i<j->okAt g s i)/\Hid (SI w w' ks kf kb s x6 x7 word g))
 case atStart=>exact⟨0,rfl,by omega,by omega,HO0,U0⟩
 case round=>
  obtain⟨j,rfl,hj,hj2,HO,HU⟩:=hrel
  have U:=show SI w wr ks kf kb s x6 x7 word g from HU
  clear HU U0 HO0
  have K:=U.kb
  obtain⟨s0,s1,s2,s3,s4,s5,s6,s7⟩:=U.sb.cells
  have F:=U.fb
  clear s0
  have hj4:j=0\/j=1\/j=2\/j=3\/j=4\/j=5:=by omega
  rcases hj4 with rfl|rfl|rfl|rfl|rfl|rfl
  ·obtain⟨k1,rfl⟩:∃ k1,gk=k1+1:=⟨gk - 1,by omega⟩
   rcases (Bool.eq_false_or_eq_true g.d).symm with hgj|hgj
   ·have K2:=K
    rw [hgj] at K2
    have q:wr.cell? ⟨kb,0,none⟩=some (.bool false):=(cell_blk K2 _).trans rfl
    by_cases hz:s.d=0
    ·have U2:=fun o=>Lib.hid (U.alloc o)
     have HO2:Hid (∀ i,i<0+1->okAt g s i):=Lib.hid (okAt_step HO.out (fun _=>hz))
     clear U K K2 hgj HO
     go_wp2_with fail
     go_roundg k1
     case measure=>omega
     case rel=>exact⟨1,by simp,by omega,by omega,HO2,U2 _⟩
    ·have hz2:(s.d !=0)=true:=by simp [hz]
     have bl:=(U.alloc (.cells #[.int .i64 s.d,.int .i64 s.a,.int .i64 s.b,.int .i64 s.c,.int .i64 s.k] 2)).below
     clear U K K2 hgj HO hz
     go_wp2_with fail
     exact bodyPost_ret (v:= .bool false) (by simp [results,Tryz.results145,go_sem]) rfl ⟨rfl,bl⟩
   ·have K2:=K
    rw [hgj] at K2
    have q:wr.cell? ⟨kb,0,none⟩=some (.bool true):=(cell_blk K2 _).trans rfl
    have HO2:Hid (∀ i,i<0+1->okAt g s i):=Lib.hid (okAt_step HO.out (fun e=>by rw [e] at hgj;cases hgj))
    replace U:=Lib.hid U
    clear K K2 hgj HO
    go_wp2_with fail
    go_roundg k1
    case measure=>omega
    case rel=>exact⟨1,by simp,by omega,by omega,HO2,U⟩
  ·obtain⟨k1,rfl⟩:∃ k1,gk=k1+1:=⟨gk - 1,by omega⟩
   rcases (Bool.eq_false_or_eq_true g.a).symm with hgj|hgj
   ·have K2:=K
    rw [hgj] at K2
    have q:wr.cell? ⟨kb,1,none⟩=some (.bool false):=(cell_blk K2 _).trans rfl
    by_cases hz:s.a=0
    ·have U2:=fun o=>Lib.hid (U.alloc o)
     have HO2:Hid (∀ i,i<1+1->okAt g s i):=Lib.hid (okAt_step HO.out (fun _=>hz))
     clear U K K2 hgj HO
     go_wp2_with fail
     go_roundg k1
     case measure=>omega
     case rel=>exact⟨2,by simp,by omega,by omega,HO2,U2 _⟩
    ·have hz2:(s.a !=0)=true:=by simp [hz]
     have bl:=(U.alloc (.cells #[.int .i64 s.d,.int .i64 s.a,.int .i64 s.b,.int .i64 s.c,.int .i64 s.k] 2)).below
     clear U K K2 hgj HO hz
     go_wp2_with fail
     exact bodyPost_ret (v:= .bool false) (by simp [results,Tryz.results145,go_sem]) rfl ⟨rfl,bl⟩
   ·have K2:=K
    rw [hgj] at K2
    have q:wr.cell? ⟨kb,1,none⟩=some (.bool true):=(cell_blk K2 _).trans rfl
    have HO2:Hid (∀ i,i<1+1->okAt g s i):=Lib.hid (okAt_step HO.out (fun e=>by rw [e] at hgj;cases hgj))
    replace U:=Lib.hid U
    clear K K2 hgj HO
    go_wp2_with fail
    go_roundg k1
    case measure=>omega
    case rel=>exact⟨2,by simp,by omega,by omega,HO2,U⟩
  ·obtain⟨k1,rfl⟩:∃ k1,gk=k1+1:=⟨gk - 1,by omega⟩
   rcases (Bool.eq_false_or_eq_true g.b).symm with hgj|hgj
   ·have K2:=K
    rw [hgj] at K2
    have q:wr.cell? ⟨kb,2,none⟩=some (.bool false):=(cell_blk K2 _).trans rfl
    by_cases hz:s.b=0
    ·have U2:=fun o=>Lib.hid (U.alloc o)
     have HO2:Hid (∀ i,i<2+1->okAt g s i):=Lib.hid (okAt_step HO.out (fun _=>hz))
     clear U K K2 hgj HO
     go_wp2_with fail
     go_roundg k1
     case measure=>omega
     case rel=>exact⟨3,by simp,by omega,by omega,HO2,U2 _⟩
    ·have hz2:(s.b !=0)=true:=by simp [hz]
     have bl:=(U.alloc (.cells #[.int .i64 s.d,.int .i64 s.a,.int .i64 s.b,.int .i64 s.c,.int .i64 s.k] 2)).below
     clear U K K2 hgj HO hz
     go_wp2_with fail
     exact bodyPost_ret (v:= .bool false) (by simp [results,Tryz.results145,go_sem]) rfl ⟨rfl,bl⟩
   ·have K2:=K
    rw [hgj] at K2
    have q:wr.cell? ⟨kb,2,none⟩=some (.bool true):=(cell_blk K2 _).trans rfl
    have HO2:Hid (∀ i,i<2+1->okAt g s i):=Lib.hid (okAt_step HO.out (fun e=>by rw [e] at hgj;cases hgj))
    replace U:=Lib.hid U
    clear K K2 hgj HO
    go_wp2_with fail
    go_roundg k1
    case measure=>omega
    case rel=>exact⟨3,by simp,by omega,by omega,HO2,U⟩
  ·obtain⟨k1,rfl⟩:∃ k1,gk=k1+1:=⟨gk - 1,by omega⟩
   rcases (Bool.eq_false_or_eq_true g.c).symm with hgj|hgj
   ·have K2:=K
    rw [hgj] at K2
    have q:wr.cell? ⟨kb,3,none⟩=some (.bool false):=(cell_blk K2 _).trans rfl
    by_cases hz:s.c=0
    ·have U2:=fun o=>Lib.hid (U.alloc o)
     have HO2:Hid (∀ i,i<3+1->okAt g s i):=Lib.hid (okAt_step HO.out (fun _=>hz))
     clear U K K2 hgj HO
     go_wp2_with fail
     go_roundg k1
     case measure=>omega
     case rel=>exact⟨4,by simp,by omega,by omega,HO2,U2 _⟩
    ·have hz2:(s.c !=0)=true:=by simp [hz]
     have bl:=(U.alloc (.cells #[.int .i64 s.d,.int .i64 s.a,.int .i64 s.b,.int .i64 s.c,.int .i64 s.k] 2)).below
     clear U K K2 hgj HO hz
     go_wp2_with fail
     exact bodyPost_ret (v:= .bool false) (by simp [results,Tryz.results145,go_sem]) rfl ⟨rfl,bl⟩
   ·have K2:=K
    rw [hgj] at K2
    have q:wr.cell? ⟨kb,3,none⟩=some (.bool true):=(cell_blk K2 _).trans rfl
    have HO2:Hid (∀ i,i<3+1->okAt g s i):=Lib.hid (okAt_step HO.out (fun e=>by rw [e] at hgj;cases hgj))
    replace U:=Lib.hid U
    clear K K2 hgj HO
    go_wp2_with fail
    go_roundg k1
    case measure=>omega
    case rel=>exact⟨4,by simp,by omega,by omega,HO2,U⟩
  ·obtain⟨k1,rfl⟩:∃ k1,gk=k1+1:=⟨gk - 1,by omega⟩
   rcases (Bool.eq_false_or_eq_true g.k).symm with hgj|hgj
   ·have K2:=K
    rw [hgj] at K2
    have q:wr.cell? ⟨kb,4,none⟩=some (.bool false):=(cell_blk K2 _).trans rfl
    by_cases hz:s.k=0
    ·have U2:=fun o=>Lib.hid (U.alloc o)
     have HO2:Hid (∀ i,i<4+1->okAt g s i):=Lib.hid (okAt_step HO.out (fun _=>hz))
     clear U K K2 hgj HO
     go_wp2_with fail
     go_roundg k1
     case measure=>omega
     case rel=>exact⟨5,by simp,by omega,by omega,HO2,U2 _⟩
    ·have hz2:(s.k !=0)=true:=by simp [hz]
     have bl:=(U.alloc (.cells #[.int .i64 s.d,.int .i64 s.a,.int .i64 s.b,.int .i64 s.c,.int .i64 s.k] 2)).below
     clear U K K2 hgj HO hz
     go_wp2_with fail
     exact bodyPost_ret (v:= .bool false) (by simp [results,Tryz.results145,go_sem]) rfl ⟨rfl,bl⟩
   ·have K2:=K
    rw [hgj] at K2
    have q:wr.cell? ⟨kb,4,none⟩=some (.bool true):=(cell_blk K2 _).trans rfl
    have HO2:Hid (∀ i,i<4+1->okAt g s i):=Lib.hid (okAt_step HO.out (fun e=>by rw [e] at hgj;cases hgj))
    replace U:=Lib.hid U
    clear K K2 hgj HO
    go_wp2_with fail
    go_roundg k1
    case measure=>omega
    case rel=>exact⟨5,by simp,by omega,by omega,HO2,U⟩
  ·clear K
   have hok:=HO.out
   have mk:(g.body=false->s.body=[])->(g.other=false->s.els=[])->False:=fun a b=>(show¬ShapeOk g s from h) ⟨hok 0 (by omega),hok 1 (by omega),hok 2 (by omega),hok 3 (by omega),hok 4 (by omega),a,b⟩
   clear hok HO
   rcases (Bool.eq_false_or_eq_true g.body).symm with gB|gB<;> rcases (Bool.eq_false_or_eq_true g.other).symm with gO|gO
   ·rw [gB,gO] at F
    have f6:wr.cell? ⟨kf,6,none⟩=some (.bool false):=(cell_blk F _).trans rfl
    have f7:wr.cell? ⟨kf,7,none⟩=some (.bool false):=(cell_blk F _).trans rfl
    have z6:wr.cell? ⟨ks,6,none⟩=some (.slice A6 s.body.length c6):=s6.trans (congrArg some (show x6=_ from hx6))
    have z7:wr.cell? ⟨ks,7,none⟩=some (.slice A7 s.els.length c7):=s7.trans (congrArg some (show x7=_ from hx7))
    have bl:=U.below
    by_cases e6:s.body=[]
    ·have e7:s.els≠[]:=fun e=>mk (fun _=>e6) (fun _=>e)
     have l7:((s.els.length:Int) == 0)=false:=beq_false_of_ne (by have:=List.length_pos_iff.2 e7;omega)
     rw [e6] at z6
     clear F gB gO s6 s7 U mk e6 e7
     go_wp2_with fail
     exact bodyPost_ret (v:= .bool false) (by simp [results,Tryz.results145,go_sem]) rfl ⟨rfl,bl⟩
    ·have l6:((s.body.length:Int) == 0)=false:=beq_false_of_ne (by have:=List.length_pos_iff.2 e6;omega)
     clear F gB gO s6 s7 U mk e6
     go_wp2_with fail
     exact bodyPost_ret (v:= .bool false) (by simp [results,Tryz.results145,go_sem]) rfl ⟨rfl,bl⟩
   ·rw [gB,gO] at F
    have f6:wr.cell? ⟨kf,6,none⟩=some (.bool false):=(cell_blk F _).trans rfl
    have f7:wr.cell? ⟨kf,7,none⟩=some (.bool true):=(cell_blk F _).trans rfl
    have z6:wr.cell? ⟨ks,6,none⟩=some (.slice A6 s.body.length c6):=s6.trans (congrArg some (show x6=_ from hx6))
    have z7:wr.cell? ⟨ks,7,none⟩=some (.slice A7 s.els.length c7):=s7.trans (congrArg some (show x7=_ from hx7))
    have bl:=U.below
    by_cases e6:s.body=[]
    ·exact (mk (fun _=>e6) (fun e=>by rw [e] at gO;cases gO)).elim
    ·have l6:((s.body.length:Int) == 0)=false:=beq_false_of_ne (by have:=List.length_pos_iff.2 e6;omega)
     clear F gB gO s6 s7 U mk e6
     go_wp2_with fail
     exact bodyPost_ret (v:= .bool false) (by simp [results,Tryz.results145,go_sem]) rfl ⟨rfl,bl⟩
   ·rw [gB,gO] at F
    have f6:wr.cell? ⟨kf,6,none⟩=some (.bool true):=(cell_blk F _).trans rfl
    have f7:wr.cell? ⟨kf,7,none⟩=some (.bool false):=(cell_blk F _).trans rfl
    have z6:wr.cell? ⟨ks,6,none⟩=some (.slice A6 s.body.length c6):=s6.trans (congrArg some (show x6=_ from hx6))
    have z7:wr.cell? ⟨ks,7,none⟩=some (.slice A7 s.els.length c7):=s7.trans (congrArg some (show x7=_ from hx7))
    have bl:=U.below
    have e7:s.els≠[]:=fun e=>mk (fun e2=>by rw [e2] at gB;cases gB) (fun _=>e)
    have l7:((s.els.length:Int) == 0)=false:=beq_false_of_ne (by have:=List.length_pos_iff.2 e7;omega)
    clear F gB gO s6 s7 U mk e7
    go_wp2_with fail
    exact bodyPost_ret (v:= .bool false) (by simp [results,Tryz.results145,go_sem]) rfl ⟨rfl,bl⟩
   ·rw [gB,gO] at F
    have f6:wr.cell? ⟨kf,6,none⟩=some (.bool true):=(cell_blk F _).trans rfl
    have f7:wr.cell? ⟨kf,7,none⟩=some (.bool true):=(cell_blk F _).trans rfl
    have z6:wr.cell? ⟨ks,6,none⟩=some (.slice A6 s.body.length c6):=s6.trans (congrArg some (show x6=_ from hx6))
    have z7:wr.cell? ⟨ks,7,none⟩=some (.slice A7 s.els.length c7):=s7.trans (congrArg some (show x7=_ from hx7))
    have bl:=U.below
    exact (mk (fun e=>by rw [e] at gB;cases gB) (fun e=>by rw [e] at gO;cases gO)).elim
theorem src_one_op {w:World}{A:Nat->Addr}(S:Sent w A){q n:Int}{nv:Nat}{Va:Option Addr}{vc:Nat}{xb:Value}(s:Al.Stmt){A6 A7:Option Addr}{c6 c7:Nat}(hg:Al.hasOf s.op=none):
  Calls Tryz.prog 107 #[.agg #[.int .i64 q,.int .i64 n,.slice Va nv vc,xb],.agg (stmtV s (.slice A6 s.body.length c6) (.slice A7 s.els.length c7))] w fun e w'=>e= .returned (sv A 4)/\Below w.heap.size w w':=by
 obtain⟨x6,hx6⟩:∃ x6,x6=Value.slice A6 s.body.length c6:=⟨_,rfl⟩
 obtain⟨x7,hx7⟩:∃ x7,x7=Value.slice A7 s.els.length c7:=⟨_,rfl⟩
 rw [<-hx6,<-hx7]
 replace hx6:=Lib.hid hx6
 replace hx7:=Lib.hid hx7
 obtain⟨W,hW⟩:∃ W,W=(w.alloc (.cells #[.int .i64 q,.int .i64 n,.slice Va nv vc,xb] 27)).alloc (.cells (stmtV s x6 x7) 66):=⟨_,rfl⟩
 obtain⟨kp,hkp⟩:∃ kp,kp=w.heap.size:=⟨_,rfl⟩
 obtain⟨ks,hks⟩:∃ ks,ks=kp+1:=⟨_,rfl⟩
 have hb0:Below w.heap.size w W:=by rw [hW];exact alloc_two _ _ _
 have h0:SB W ks s x6 x7:=by rw [hW,hks,hkp];exact alloc_at _ _ _
 unfold sv
 go_enter Tryz.func107,Tryz.ntmps107
 unfold stmtV
 go_wp2_with fail
 have hWu:W=(w.alloc (.cells #[.int .i64 q,.int .i64 n,.slice Va nv vc,xb] 27)).alloc (.cells #[.int .i64 s.op,.int .i64 s.d,.int .i64 s.a,.int .i64 s.b,.int .i64 s.c,.int .i64 s.k,x6,x7] 66):=hW
 rw [<-hWu]
 simp only [<-hkp,<-hks]
 replace hks:=Lib.hid hks
 replace hkp:=Lib.hid hkp
 clear hW hWu
 have HF:=src_of_no W s.op hg
 unfold formV at HF
 have tt:(!false)=true:=rfl
 go_wp2_with (first|(go_at_call 142;refine HF.mono ?_;rintro e w1 ⟨word,rfl,hb1⟩;have hb2:=hb0.trans (lower_below hb1 hb0.size);have hb3:=fun o=>hb2.alloc hb2.size o;have g4:=fun o=>(S.below (hb3 o)).cell 4 (by decide);have g4':=(S.below hb2).cell 4 (by decide)))
 exact bodyPost_ret (v:= .iface 205 (.pointer (some (A 4)))) (by simp [results,Tryz.results107,go_sem]) rfl ⟨rfl,by first|exact hb3 _|exact hb2⟩
end Go.Proofs.YtkplfaionpplaaaGreatDoor
namespace Go.Proofs.YtkplfaionpplaaaGreatDoor.Al
section
variable {q:Int} {vars:List Var} {s:Stmt} {g:Has}
theorem oneF_none (hg:hasOf s.op=none):oneF q vars s=106:=by unfold oneF;rw [hg]
theorem oneF_some (hg:hasOf s.op=some g):oneF q vars s=
 (if (usesOf s++(if g.d then [s.d] else [])).any (fun v=>decide (v<0\/v>=vars.length)) then 107 else
 if (!g.d && s.d !=0) || (!g.a && s.a !=0) || (!g.b && s.b !=0) || (!g.c && s.c !=0) || (!g.k && s.k !=0) || (!g.body && !s.body.isEmpty) || (!g.other && !s.els.isEmpty) then 104 else
 if g.d && (varAt vars s.d).kind == 1 then 104 else
 if !numOk q s then 101 else 0):=by unfold oneF;rw [hg]
theorem oneF_var (hg:hasOf s.op=some g){v:Int}(hv:v∈usesOf s++(if g.d then [s.d] else []))(h:v<0\/v>=vars.length):oneF q vars s=107:=by
 rw [oneF_some hg,if_pos (List.any_eq_true.2 ⟨v,hv,decide_eq_true h⟩)]
theorem any_no (hr:∀ v∈usesOf s++(if g.d then [s.d] else []),0<=v/\v<vars.length):¬(usesOf s++(if g.d then [s.d] else [])).any (fun v=>decide (v<0\/v>=vars.length))=true:=by
 intro h
 obtain⟨v,hv,h2⟩:=List.any_eq_true.1 h
 have:=hr v hv
 have h3:=of_decide_eq_true h2
 omega
def ShOk (g:Has)(s:Stmt):Prop:=(g.d=false->s.d=0)/\(g.a=false->s.a=0)/\(g.b=false->s.b=0)/\(g.c=false->s.c=0)/\(g.k=false->s.k=0)/\(g.body=false->s.body=[])/\(g.other=false->s.els=[])
theorem pz (b:Bool)(x:Int):(!b && x !=0)=true ↔ ¬(b=false->x=0):=by cases b<;> simp
theorem pl {α:Type}(b:Bool)(l:List α):(!b && !l.isEmpty)=true ↔ ¬(b=false->l=[]):=by cases b<;> simp
theorem shape_bool:((!g.d && s.d !=0) || (!g.a && s.a !=0) || (!g.b && s.b !=0) || (!g.c && s.c !=0) || (!g.k && s.k !=0) || (!g.body && !s.body.isEmpty) || (!g.other && !s.els.isEmpty))=true ↔ ¬ShOk g s:=by
 unfold ShOk
 simp only [Bool.or_eq_true,pz,pl,Classical.not_and_iff_not_or_not,or_assoc]
theorem oneF_bad (hg:hasOf s.op=some g)(hr:∀ v∈usesOf s++(if g.d then [s.d] else []),0<=v/\v<vars.length)(hs:¬ShOk g s):oneF q vars s=104:=by
 rw [oneF_some hg,if_neg (any_no hr),if_pos (shape_bool.2 hs)]
theorem oneF_in (hg:hasOf s.op=some g)(hr:∀ v∈usesOf s++(if g.d then [s.d] else []),0<=v/\v<vars.length)(hs:ShOk g s)(hd:g.d=true)(hk:(varAt vars s.d).kind=1):oneF q vars s=104:=by
 rw [oneF_some hg,if_neg (any_no hr),if_neg (fun h=>shape_bool.1 h hs),if_pos (by rw [hd,hk];rfl)]
theorem oneF_num (hg:hasOf s.op=some g)(hr:∀ v∈usesOf s++(if g.d then [s.d] else []),0<=v/\v<vars.length)(hs:ShOk g s)(hk:g.d=true->(varAt vars s.d).kind≠1)(hn:numOk q s=false):oneF q vars s=101:=by
 rw [oneF_some hg,if_neg (any_no hr),if_neg (fun h=>shape_bool.1 h hs),if_neg (by intro h;simp only [Bool.and_eq_true,beq_iff_eq] at h;exact hk h.1 h.2),if_pos (by rw [hn];rfl)]
theorem oneF_ok (hg:hasOf s.op=some g)(hr:∀ v∈usesOf s++(if g.d then [s.d] else []),0<=v/\v<vars.length)(hs:ShOk g s)(hk:g.d=true->(varAt vars s.d).kind≠1)(hn:numOk q s=true):oneF q vars s=0:=by
 rw [oneF_some hg,if_neg (any_no hr),if_neg (fun h=>shape_bool.1 h hs),if_neg (by intro h;simp only [Bool.and_eq_true,beq_iff_eq] at h;exact hk h.1 h.2),if_neg (by rw [hn];simp)]
end
end Go.Proofs.YtkplfaionpplaaaGreatDoor.Al
namespace Go.Proofs.YtkplfaionpplaaaGreatDoor
open Go.RowKit
def gN (c:Int):Nat:=if c=101 then 0 else if c=103 then 1 else if c=102 then 2 else if c=108 then 3 else if c=106 then 4 else if c=104 then 5 else if c=109 then 6 else if c=107 then 7 else if c=105 then 8 else if c=110 then 9 else if c=111 then 10 else if c=112 then 11 else if c=113 then 12 else 13
def eV (A:Nat->Addr)(c:Int):Value:=if c=0 then Value.nilIface else sv A (gN c)
theorem src_one_x {w:World}{A:Nat->Addr}(S:Sent w A){q n:Int}{vars:List Al.Var}{Va:Option Addr}{vc:Nat}{xb:Value}(hv:kVar.C w Va vars.length vars)(hvl:vars.length<=12)(s:Al.Stmt){A6 A7:Option Addr}{c6 c7:Nat}(hq:0<=q/\q<8388608):
  Calls Tryz.prog 107 #[.agg #[.int .i64 q,.int .i64 n,.slice Va vars.length vc,xb],.agg (stmtV s (.slice A6 s.body.length c6) (.slice A7 s.els.length c7))] w fun e w'=>e= .returned (eV A (Al.oneF q vars s))/\Below w.heap.size w w':=by
 obtain⟨R,hR⟩:∃ R,R=Al.oneF q vars s:=⟨_,rfl⟩
 rw [<-hR]
 rcases hgx:Al.hasOf s.op with _|g
 ·rw [hR,Al.oneF_none hgx]
  exact src_one_op S s hgx
 have hg:=hgx
 replace hR:=Lib.hid hR
 obtain⟨j0,hj0,jz0,jz1,jz2⟩:=info_parts Tryz.infoInt
 obtain⟨x6,hx6⟩:∃ x6,x6=Value.slice A6 s.body.length c6:=⟨_,rfl⟩
 obtain⟨x7,hx7⟩:∃ x7,x7=Value.slice A7 s.els.length c7:=⟨_,rfl⟩
 rw [<-hx6,<-hx7]
 replace hx6:=Lib.hid hx6
 replace hx7:=Lib.hid hx7
 obtain⟨W,hW⟩:∃ W,W=(w.alloc (.cells #[.int .i64 q,.int .i64 n,.slice Va vars.length vc,xb] 27)).alloc (.cells (stmtV s x6 x7) 66):=⟨_,rfl⟩
 obtain⟨kp,hkp⟩:∃ kp,kp=w.heap.size:=⟨_,rfl⟩
 obtain⟨ks,hks⟩:∃ ks,ks=kp+1:=⟨_,rfl⟩
 have hb0:Below w.heap.size w W:=by rw [hW];exact alloc_two _ _ _
 have hp0:W.heap[kp]?=some (.cells #[.int .i64 q,.int .i64 n,.slice Va vars.length vc,xb] 27 (0,0)):=by rw [hW,hkp];exact alloc_blk _ (heap_alloc_new w _)
 have h0:SB W ks s x6 x7:=by rw [hW,hks,hkp];exact alloc_at _ _ _
 have hkl:ks<W.heap.size:=blk_lt h0
 have hpl:kp<W.heap.size:=blk_lt hp0
 go_enter Tryz.func107,Tryz.ntmps107
 unfold stmtV
 go_wp2_with fail
 have hWu:W=(w.alloc (.cells #[.int .i64 q,.int .i64 n,.slice Va vars.length vc,xb] 27)).alloc (.cells #[.int .i64 s.op,.int .i64 s.d,.int .i64 s.a,.int .i64 s.b,.int .i64 s.c,.int .i64 s.k,x6,x7] 66):=hW
 rw [<-hWu]
 simp only [<-hkp,<-hks]
 replace hks:=Lib.hid hks
 replace hkp:=Lib.hid hkp
 clear hW hWu
 have HF:=src_of W s.op hg
 unfold formV at HF
 go_wp2_with (first|(go_at_call 142;refine HF.mono ?_;rintro e w1 ⟨word,rfl,hb1⟩;have h1:=h0.below hb1 hkl;have hp1:=below_blk hb1 hp0 hpl;have v1:=fun o=>SB.cells (show SB (w1.alloc o) ks s x6 x7 from alloc_blk _ h1);have v10:=fun o=>(v1 o).1;have v11:=fun o=>(v1 o).2.1;have v12:=fun o=>(v1 o).2.2.1;have v13:=fun o=>(v1 o).2.2.2.1;have v14:=fun o=>(v1 o).2.2.2.2.1;have v15:=fun o=>(v1 o).2.2.2.2.2.1;have v16:=fun o=>(v1 o).2.2.2.2.2.2.1;have v17:=fun o=>(v1 o).2.2.2.2.2.2.2))
 clear HF v1 v10 v11 v12 v13 v14 v15 v16 v17
 obtain⟨kf,hkf⟩:∃ kf,kf=w1.heap.size:=⟨_,rfl⟩
 obtain⟨W1,hW1⟩:∃ W1,W1=w1.alloc (.cells #[.string word,.bool g.d,.bool g.a,.bool g.b,.bool g.c,.bool g.k,.bool g.body,.bool g.other] 192):=⟨_,rfl⟩
 have hb2:Below w.heap.size w W1:=by rw [hW1];exact (hb0.trans (lower_below hb1 hb0.size)).alloc (Nat.le_trans hb0.size hb1.size) _
 have h2:SB W1 ks s x6 x7:=by rw [hW1];exact alloc_blk _ h1
 have hp2:W1.heap[kp]?=some (.cells #[.int .i64 q,.int .i64 n,.slice Va vars.length vc,xb] 27 (0,0)):=by rw [hW1];exact alloc_blk _ hp1
 have hf2:W1.heap[kf]?=some (.cells #[.string word,.bool g.d,.bool g.a,.bool g.b,.bool g.c,.bool g.k,.bool g.body,.bool g.other] 192 (0,0)):=by rw [hW1,hkf];exact heap_alloc_new _ _
 rw [<-hW1]
 simp only [<-hkf]
 replace hkf:=Lib.hid hkf
 clear hW1 hb0 hb1 hp0 hp1 h0 h1 hkl hpl
 have O1:OB W1 kp ks kf q n vars.length Va vc xb s x6 x7 word g:=⟨hp2,h2,hf2⟩
 clear hp2 h2 hf2
 obtain⟨L,hL⟩:∃ L,L=Al.usesOf s:=⟨_,rfl⟩
 obtain⟨L2,hL2⟩:∃ L2,L2=Al.usesOf s++(if g.d=true then [s.d] else []):=⟨_,rfl⟩
 have hway:∀ v,v∈L2->v<0\/v>=vars.length->R=107:=fun v hv h=>(show R=_ from hR).trans <| Al.oneF_var hg (by rw [<-hL2];exact hv) h
 have hin:(∀ v∈L2,0<=v/\v<vars.length)->∀ v∈Al.usesOf s++(if g.d=true then [s.d] else []),0<=v/\v<vars.length:=fun h=>by rw [<-hL2];exact h
 rw [<-hL] at hL2
 have hLl:L.length<=3:=by
  rw [hL];unfold Al.usesOf;rw [hg]
  simp only [List.length_append]
  (repeat' split)<;> simp
 have HU:=src_uses W1 s x6 x7 hg
 rw [<-hL] at HU
 have HW:=fun w0=>src_writes w0 s x6 x7 hg
 unfold stmtV at HU HW
 replace hL:=Lib.hid hL
 obtain⟨z0,z1,z2,z3,z4,z5,z6,z7⟩:=SB.cells O1.s
 go_wp2_with (first|(go_at_call 143;refine HU.mono ?_;rintro e w2 ⟨v,rfl,hown,hb3⟩;obtain⟨av,cv,rfl⟩:=own_slice hown;have O2:=O1.below hb3 (Nat.le_refl _);clear z0 z1 z2 z3 z4 z5 z6 z7;obtain⟨z0,z1,z2,z3,z4,z5,z6,z7⟩:=SB.cells O2.s))
 have hb4:Below w.heap.size w w2:=hb2.trans (lower_below hb3 hb2.size)
 have hown2:=own_base hown hb2.size
 clear HU O1 hb3 hb2 hown
 clear z0 z1 z2 z3 z4 z5 z6 z7
 have hL2l:L2.length<=4:=by rw [hL2];simp only [List.length_append];split<;> simp<;> omega
 rcases (Bool.eq_false_or_eq_true g.d).symm with hgd|hgd
 ·rw [hgd] at hL2
  simp only [if_true,if_false,Bool.false_eq_true,List.append_nil] at hL2
  simp only [hgd,if_true,if_false,Bool.false_eq_true] at HW
  subst hL2
  replace hgd:=Lib.hid hgd
  go_wp2_with (first|(go_at_call 144;refine (HW _).mono ?_;rintro e w4 ⟨rfl,hb5⟩;have O4:=O2.below hb5 (Nat.le_refl _);have hown4:=own_of hown2 fun k hk=>hb5.block k (hown2.lt k hk).2;have hb8:=hb4.trans (lower_below hb5 hb4.size)))
  clear O2 HW hb4 hb5 hown2
  have I4:=own_ints hown4
  have hw8:=hb8.size
  have g7:=(S.below hb8).cell 7 (by decide)
  unfold sv at g7
  clear hown4
  go_loopg [11,35] (L2.length+1) (fun gk v11 v35 w'=>∃ j:Nat,v35= .int .i64 j/\j+gk=L2.length+1/\j<=L2.length/\w'=w4/\Hid (∀ i,∀ (h:i<L2.length),i<j->0<=L2[i]/\L2[i]<vars.length))
  case atStart=>exact⟨0,rfl,by omega,by omega,rfl,Lib.hid fun i h h0=>by omega⟩
  case round=>
   obtain⟨j,rfl,hj,hj2,hww,HR⟩:=hrel
   subst hww
   have p0:wr.cell? ⟨kp,0,none⟩=some (.int .i64 q):=(cell_blk O4.p _).trans rfl
   have p1:wr.cell? ⟨kp,1,none⟩=some (.int .i64 n):=(cell_blk O4.p _).trans rfl
   have p2:wr.cell? ⟨kp,2,none⟩=some (.slice Va vars.length vc):=(cell_blk O4.p _).trans rfl
   by_cases hjl:j<L2.length
   ·obtain⟨k1,rfl⟩:∃ k1,gk=k1+1:=⟨gk - 1,by omega⟩
    obtain⟨ag,he,hcell⟩:∃ ag,av=some ⟨ag,0,none⟩/\wr.cell? ⟨ag,j,none⟩=some (.int .i64 L2[j]):=by
     rcases I4 with⟨h,h0⟩|⟨g,c,cur,h,h1,h2⟩
     ·subst h0;simp at hjl
     ·simp only [Value.slice.injEq,true_and] at h
      exact⟨g,h.1,by rw [cell_blk h1,h2 j hjl]⟩
    have hw7:=hway L2[j] (List.getElem_mem hjl)
    have HN2:0<=L2[j]/\L2[j]<vars.length->Hid (∀ i,∀ (h:i<L2.length),i<j+1->0<=L2[i]/\L2[i]<vars.length):=fun hh=>Lib.hid fun i h hi=>by
     by_cases e:i=j
     ·subst e;exact hh
     ·exact (show ∀ i,∀ (h:i<L2.length),i<j->0<=L2[i]/\L2[i]<vars.length from HR) i h (by omega)
    obtain⟨x,hx⟩:∃ x,x=L2[j]:=⟨_,rfl⟩
    rw [<-hx] at hcell hw7 HN2
    replace hx:=Lib.hid hx
    subst he
    have t1:decide ((j:Int)<(L2.length:Int))=true:=by simp;omega
    have t2:(0:Int)<=(j:Int):=by omega
    have t3:(j:Int)<(L2.length:Int):=by omega
    clear I4 HR hin
    by_cases hr0:x<0
    ·have t4:decide (x<0)=true:=decide_eq_true hr0
     have hRv:=Lib.hid (hw7 (.inl hr0))
     clear HN2 hw7
     go_wp2_with fail
     exact bodyPost_ret (v:= .iface 205 (.pointer (some (A 7)))) (by simp [results,Tryz.results107,go_sem]) rfl ⟨by rw [show R=107 from hRv];rfl,hb8⟩
    have t4:decide (x<0)=false:=decide_eq_false hr0
    by_cases hr1:x<vars.length
    ·have t5:decide ((vars.length:Int)<=x)=false:=decide_eq_false (by omega)
     have HN3:=HN2 ⟨by omega,hr1⟩
     clear HN2 hw7 g7
     go_wp2_with fail
     go_roundg k1
     case measure=>omega
     case rel=>exact⟨j+1,by simp,by omega,by omega,rfl,HN3⟩
    ·have t5:decide ((vars.length:Int)<=x)=true:=decide_eq_true (by omega)
     have hRv:=Lib.hid (hw7 (.inr (by omega)))
     clear HN2 hw7
     go_wp2_with fail
     exact bodyPost_ret (v:= .iface 205 (.pointer (some (A 7)))) (by simp [results,Tryz.results107,go_sem]) rfl ⟨by rw [show R=107 from hRv];rfl,hb8⟩
   ·have hje:j=L2.length:=by omega
    have t1:decide ((j:Int)<(L2.length:Int))=false:=by simp;omega
    have hrange:∀ v∈L2,0<=v/\v<vars.length:=fun v hv=>by
     obtain⟨i,hi,rfl⟩:=List.getElem_of_mem hv
     exact (show ∀ i,∀ (h:i<L2.length),i<j->0<=L2[i]/\L2[i]<vars.length from HR) i hi (by omega)
    have hin2:=hin hrange
    clear HR hway g7 hin hje
    obtain⟨z0,z1,z2,z3,z4,z5,z6,z7⟩:=SB.cells O4.s
    have O4f:=O4.f
    rw [show g.d=false from hgd] at O4f
    have y0:wr.cell? ⟨kf,0,none⟩=some (.string word):=(cell_blk O4f _).trans rfl
    have y1:wr.cell? ⟨kf,1,none⟩=some (.bool false):=(cell_blk O4f _).trans rfl
    have y2:wr.cell? ⟨kf,2,none⟩=some (.bool g.a):=(cell_blk O4f _).trans rfl
    have y3:wr.cell? ⟨kf,3,none⟩=some (.bool g.b):=(cell_blk O4f _).trans rfl
    have y4:wr.cell? ⟨kf,4,none⟩=some (.bool g.c):=(cell_blk O4f _).trans rfl
    have y5:wr.cell? ⟨kf,5,none⟩=some (.bool g.k):=(cell_blk O4f _).trans rfl
    have y6:wr.cell? ⟨kf,6,none⟩=some (.bool g.body):=(cell_blk O4f _).trans rfl
    have y7:wr.cell? ⟨kf,7,none⟩=some (.bool g.other):=(cell_blk O4f _).trans rfl
    clear I4 O4f
    by_cases hsh:Al.ShOk g s
    ·have HSH:=src_shape wr s (A6:=A6) (A7:=A7) (c6:=c6) (c7:=c7) word ⟨hsh.1,hsh.2.1,hsh.2.2.1,hsh.2.2.2.1,hsh.2.2.2.2.1,hsh.2.2.2.2.2.1,hsh.2.2.2.2.2.2⟩
     rw [<-(show x6=_ from hx6),<-(show x7=_ from hx7)] at HSH
     unfold stmtV formV at HSH
     rw [show g.d=false from hgd] at HSH
     have hkk:g.d=true->(Al.varAt vars s.d).kind≠1:=fun h=>by rw [show g.d=false from hgd] at h;cases h
     rcases hnum:Al.numOk q s with _|_
     ·have HN:=fun w0=>src_number_no w0 q n s x6 x7 hq hnum
      unfold stmtV at HN
      have hRv:=Lib.hid (show R=101 from (show R=_ from hR).trans (Al.oneF_num hg hin2 hsh hkk hnum))
      clear hin2 hrange hg hgx hnum hsh
      go_wp2_with (first|(go_at_call 145;refine HSH.mono ?_;rintro e w5 ⟨rfl,hb9⟩;have O5:=O4.below hb9 (Nat.le_refl _);clear z0 z1 z2 z3 z4 z5 z6 z7 p0 p1 p2 y0 y1 y2 y3 y4 y5 y6 y7;obtain⟨z0,z1,z2,z3,z4,z5,z6,z7⟩:=SB.cells O5.s;have p0:w5.cell? ⟨kp,0,none⟩=some (.int .i64 q):=(cell_blk O5.p _).trans rfl;have p1:w5.cell? ⟨kp,1,none⟩=some (.int .i64 n):=(cell_blk O5.p _).trans rfl;have p2:w5.cell? ⟨kp,2,none⟩=some (.slice Va vars.length vc):=(cell_blk O5.p _).trans rfl;have hb10:=hb8.trans (lower_below hb9 hb8.size))|(go_at_call 146;refine (HN _).mono ?_;rintro e w6 ⟨rfl,hb11⟩;have hb12:=hb10.trans (lower_below hb11 hb10.size);have g0:=(S.below hb12).cell 0 (by decide);unfold sv at g0))
      exact bodyPost_ret (v:= .iface 205 (.pointer (some (A 0)))) (by simp [results,Tryz.results107,go_sem]) rfl ⟨by rw [show R=101 from hRv];rfl,hb12⟩
     ·have HN:=fun w0=>src_number w0 q n s x6 x7 hq hnum
      unfold stmtV at HN
      have hRv:=Lib.hid (show R=0 from (show R=_ from hR).trans (Al.oneF_ok hg hin2 hsh hkk hnum))
      clear hin2 hrange hg hgx hnum hsh
      go_wp2_with (first|(go_at_call 145;refine HSH.mono ?_;rintro e w5 ⟨rfl,hb9⟩;have O5:=O4.below hb9 (Nat.le_refl _);clear z0 z1 z2 z3 z4 z5 z6 z7 p0 p1 p2 y0 y1 y2 y3 y4 y5 y6 y7;obtain⟨z0,z1,z2,z3,z4,z5,z6,z7⟩:=SB.cells O5.s;have p0:w5.cell? ⟨kp,0,none⟩=some (.int .i64 q):=(cell_blk O5.p _).trans rfl;have p1:w5.cell? ⟨kp,1,none⟩=some (.int .i64 n):=(cell_blk O5.p _).trans rfl;have p2:w5.cell? ⟨kp,2,none⟩=some (.slice Va vars.length vc):=(cell_blk O5.p _).trans rfl;have hb10:=hb8.trans (lower_below hb9 hb8.size))|(go_at_call 146;refine (HN _).mono ?_;rintro e w6 ⟨rfl,hb11⟩))
      exact bodyPost_ret (v:=Value.nilIface) (by simp [results,Tryz.results107,go_sem]) rfl ⟨by rw [show R=0 from hRv];rfl,hb10.trans (lower_below hb11 hb10.size)⟩
    ·have HSH:=src_shape_no wr s (A6:=A6) (A7:=A7) (c6:=c6) (c7:=c7) (g:=g) word (fun h=>hsh ⟨h.d,h.a,h.b,h.c,h.k,h.body,h.other⟩)
     rw [<-(show x6=_ from hx6),<-(show x7=_ from hx7)] at HSH
     unfold stmtV formV at HSH
     rw [show g.d=false from hgd] at HSH
     have hRv:=Lib.hid (show R=104 from (show R=_ from hR).trans (Al.oneF_bad hg hin2 hsh))
     clear hin2 hrange hg hgx hsh
     go_wp2_with (first|(go_at_call 145;refine HSH.mono ?_;rintro e w5 ⟨rfl,hb9⟩;have hb10:=hb8.trans (lower_below hb9 hb8.size);have g5:=(S.below hb10).cell 5 (by decide);unfold sv at g5))
     exact bodyPost_ret (v:= .iface 205 (.pointer (some (A 5)))) (by simp [results,Tryz.results107,go_sem]) rfl ⟨by rw [show R=104 from hRv];rfl,hb10⟩
 ·rw [hgd] at hL2
  simp only [if_true,if_false,Bool.false_eq_true] at hL2
  simp only [hgd,if_true,if_false,Bool.false_eq_true] at HW
  have hdm:s.d∈L2:=by rw [hL2];simp
  have hnl:L2.length=L.length+1:=by rw [hL2];simp
  replace hL2:=Lib.hid hL2
  replace hnl:=Lib.hid hnl
  replace hgd:=Lib.hid hgd
  go_wp2_with (first|(go_at_call 144;refine (HW _).mono ?_;rintro e w3 ⟨rfl,hb5⟩;have O3:=O2.below hb5 (Nat.le_refl _);have hown3:=own_of hown2 fun k hk=>hb5.block k (hown2.lt k hk).2;have hb6:=hb4.trans (lower_below hb5 hb4.size);have hsz:=hb6.size;have nb:=heap_alloc_new w3 (.cells #[.int .i64 s.d] 3);have ha:=hown3.alloc (.cells #[.int .i64 s.d] 3))|(at_builtin;refine wpList_append_own_at _ rfl (.tmp 29) (.tmp 31) 86 rfl w.heap.size 3 j0 _ 1 8 Tryz.underlying86 hj0 jz0 jz1 jz2 rfl (by omega) _ _ _ rfl ha ⟨w3.heap.size,0,none⟩ 1 1 [.int .i64 s.d] rfl rfl (World.news_of_block nb) (by simp [Value.oneCell']) (by unfold maxLen;omega) (by omega) (by simp;omega) ?_;intro v2 w4 hown3' hgrow hnil hat;obtain⟨av,cv,rfl⟩:=own_slice hown3';rw [<-(show L2.length=_ from hnl)] at hown3' ⊢;have hown4:w4.ownsRow w.heap.size 3 1 (.slice av L2.length cv) L2.length (intsV L2):=by { rw [show L2=_ from hL2];rw [show L2=_ from hL2] at hown3';simpa [intsV] using hown3'};have O4:=(O3.alloc _).grow ha hgrow;have hb8:=below_grown (hb6.alloc hb6.size _) hgrow (fun k hk=>(ha.lt k hk).1) (by simp;omega)))
  clear O2 O3 HW hb4 hb5 hown2 hown3 hb6 ha hgrow hown3' nb hnil hat
  have I4:=own_ints hown4
  have hw8:=hb8.size
  have g7:=(S.below hb8).cell 7 (by decide)
  unfold sv at g7
  clear hown4
  go_loopg [11,35] (L2.length+1) (fun gk v11 v35 w'=>∃ j:Nat,v35= .int .i64 j/\j+gk=L2.length+1/\j<=L2.length/\w'=w4/\Hid (∀ i,∀ (h:i<L2.length),i<j->0<=L2[i]/\L2[i]<vars.length))
  case atStart=>exact⟨0,rfl,by omega,by omega,rfl,Lib.hid fun i h h0=>by omega⟩
  case round=>
   obtain⟨j,rfl,hj,hj2,hww,HR⟩:=hrel
   subst hww
   have p0:wr.cell? ⟨kp,0,none⟩=some (.int .i64 q):=(cell_blk O4.p _).trans rfl
   have p1:wr.cell? ⟨kp,1,none⟩=some (.int .i64 n):=(cell_blk O4.p _).trans rfl
   have p2:wr.cell? ⟨kp,2,none⟩=some (.slice Va vars.length vc):=(cell_blk O4.p _).trans rfl
   by_cases hjl:j<L2.length
   ·obtain⟨k1,rfl⟩:∃ k1,gk=k1+1:=⟨gk - 1,by omega⟩
    obtain⟨ag,he,hcell⟩:∃ ag,av=some ⟨ag,0,none⟩/\wr.cell? ⟨ag,j,none⟩=some (.int .i64 L2[j]):=by
     rcases I4 with⟨h,h0⟩|⟨g,c,cur,h,h1,h2⟩
     ·subst h0;simp at hjl
     ·simp only [Value.slice.injEq,true_and] at h
      exact⟨g,h.1,by rw [cell_blk h1,h2 j hjl]⟩
    have hw7:=hway L2[j] (List.getElem_mem hjl)
    have HN2:0<=L2[j]/\L2[j]<vars.length->Hid (∀ i,∀ (h:i<L2.length),i<j+1->0<=L2[i]/\L2[i]<vars.length):=fun hh=>Lib.hid fun i h hi=>by
     by_cases e:i=j
     ·subst e;exact hh
     ·exact (show ∀ i,∀ (h:i<L2.length),i<j->0<=L2[i]/\L2[i]<vars.length from HR) i h (by omega)
    obtain⟨x,hx⟩:∃ x,x=L2[j]:=⟨_,rfl⟩
    rw [<-hx] at hcell hw7 HN2
    replace hx:=Lib.hid hx
    subst he
    have t1:decide ((j:Int)<(L2.length:Int))=true:=by simp;omega
    have t2:(0:Int)<=(j:Int):=by omega
    have t3:(j:Int)<(L2.length:Int):=by omega
    clear I4 HR hin
    by_cases hr0:x<0
    ·have t4:decide (x<0)=true:=decide_eq_true hr0
     have hRv:=Lib.hid (hw7 (.inl hr0))
     clear HN2 hw7
     go_wp2_with fail
     exact bodyPost_ret (v:= .iface 205 (.pointer (some (A 7)))) (by simp [results,Tryz.results107,go_sem]) rfl ⟨by rw [show R=107 from hRv];rfl,hb8⟩
    have t4:decide (x<0)=false:=decide_eq_false hr0
    by_cases hr1:x<vars.length
    ·have t5:decide ((vars.length:Int)<=x)=false:=decide_eq_false (by omega)
     have HN3:=HN2 ⟨by omega,hr1⟩
     clear HN2 hw7 g7
     go_wp2_with fail
     go_roundg k1
     case measure=>omega
     case rel=>exact⟨j+1,by simp,by omega,by omega,rfl,HN3⟩
    ·have t5:decide ((vars.length:Int)<=x)=true:=decide_eq_true (by omega)
     have hRv:=Lib.hid (hw7 (.inr (by omega)))
     clear HN2 hw7
     go_wp2_with fail
     exact bodyPost_ret (v:= .iface 205 (.pointer (some (A 7)))) (by simp [results,Tryz.results107,go_sem]) rfl ⟨by rw [show R=107 from hRv];rfl,hb8⟩
   ·have hje:j=L2.length:=by omega
    have t1:decide ((j:Int)<(L2.length:Int))=false:=by simp;omega
    have hrange:∀ v∈L2,0<=v/\v<vars.length:=fun v hv=>by
     obtain⟨i,hi,rfl⟩:=List.getElem_of_mem hv
     exact (show ∀ i,∀ (h:i<L2.length),i<j->0<=L2[i]/\L2[i]<vars.length from HR) i hi (by omega)
    have hin2:=hin hrange
    clear HR hway g7 hin hje
    obtain⟨z0,z1,z2,z3,z4,z5,z6,z7⟩:=SB.cells O4.s
    have O4f:=O4.f
    rw [show g.d=true from hgd] at O4f
    have y0:wr.cell? ⟨kf,0,none⟩=some (.string word):=(cell_blk O4f _).trans rfl
    have y1:wr.cell? ⟨kf,1,none⟩=some (.bool true):=(cell_blk O4f _).trans rfl
    have y2:wr.cell? ⟨kf,2,none⟩=some (.bool g.a):=(cell_blk O4f _).trans rfl
    have y3:wr.cell? ⟨kf,3,none⟩=some (.bool g.b):=(cell_blk O4f _).trans rfl
    have y4:wr.cell? ⟨kf,4,none⟩=some (.bool g.c):=(cell_blk O4f _).trans rfl
    have y5:wr.cell? ⟨kf,5,none⟩=some (.bool g.k):=(cell_blk O4f _).trans rfl
    have y6:wr.cell? ⟨kf,6,none⟩=some (.bool g.body):=(cell_blk O4f _).trans rfl
    have y7:wr.cell? ⟨kf,7,none⟩=some (.bool g.other):=(cell_blk O4f _).trans rfl
    clear I4 O4f
    by_cases hsh:Al.ShOk g s
    ·have HSH:=src_shape wr s (A6:=A6) (A7:=A7) (c6:=c6) (c7:=c7) word ⟨hsh.1,hsh.2.1,hsh.2.2.1,hsh.2.2.2.1,hsh.2.2.2.2.1,hsh.2.2.2.2.2.1,hsh.2.2.2.2.2.2⟩
     rw [<-(show x6=_ from hx6),<-(show x7=_ from hx7)] at HSH
     unfold stmtV formV at HSH
     rw [show g.d=true from hgd] at HSH
     have hdr:=hrange s.d hdm
     obtain⟨ad,rfl,kk,_⟩:=at_T901 (Go.Proofs.YtkplfaionpplaaaGreatDoorW.PrintWords.Kd.C_below hv (Below.refl _ _)) s.d hdr.1 hdr.2
     have hd0:=hdr.1
     have hd1:=hdr.2
     have kd:=fun (w0:World) (hb:Below w.heap.size w w0)=>cell_since hb kk
     by_cases hkd:(rd_T901 vars s.d).kind=1
     ·have hRv:=Lib.hid (show R=104 from (show R=_ from hR).trans (Al.oneF_in hg hin2 hsh hgd hkd))
      have kn:decide ((rd_T901 vars s.d).kind=1)=true:=decide_eq_true hkd
      have kn2:((rd_T901 vars s.d).kind == 1)=true:=by rw [hkd];rfl
      rw [hkd] at kd
      clear hin2 hrange hg hgx hsh kk kn kn2 hkd
      go_wp2_with (first|(go_at_call 145;refine HSH.mono ?_;rintro e w5 ⟨rfl,hb9⟩;have O5:=O4.below hb9 (Nat.le_refl _);clear z0 z1 z2 z3 z4 z5 z6 z7 p0 p1 p2 y0 y1 y2 y3 y4 y5 y6 y7;obtain⟨z0,z1,z2,z3,z4,z5,z6,z7⟩:=SB.cells O5.s;have p0:w5.cell? ⟨kp,0,none⟩=some (.int .i64 q):=(cell_blk O5.p _).trans rfl;have p1:w5.cell? ⟨kp,1,none⟩=some (.int .i64 n):=(cell_blk O5.p _).trans rfl;have p2:w5.cell? ⟨kp,2,none⟩=some (.slice (some ad) vars.length vc):=(cell_blk O5.p _).trans rfl;have hb10:=hb8.trans (lower_below hb9 hb8.size);have kd5:=kd w5 hb10;have g5:=(S.below hb10).cell 5 (by decide);unfold sv at g5))
      exact bodyPost_ret (v:= .iface 205 (.pointer (some (A 5)))) (by simp [results,Tryz.results107,go_sem]) rfl ⟨by rw [show R=104 from hRv];rfl,hb10⟩
     have hkk:g.d=true->(Al.varAt vars s.d).kind≠1:=fun _=>hkd
     have kn:decide ((rd_T901 vars s.d).kind=1)=false:=decide_eq_false hkd
     have kn1:¬(rd_T901 vars s.d).kind=1:=hkd
     have kn2:((rd_T901 vars s.d).kind == 1)=false:=beq_false_of_ne kn1
     rcases hnum:Al.numOk q s with _|_
     ·have HN:=fun w0=>src_number_no w0 q n s x6 x7 hq hnum
      unfold stmtV at HN
      have hRv:=Lib.hid (show R=101 from (show R=_ from hR).trans (Al.oneF_num hg hin2 hsh hkk hnum))
      clear hin2 hrange hg hgx hnum hsh
      go_wp2_with (first|(go_at_call 145;refine HSH.mono ?_;rintro e w5 ⟨rfl,hb9⟩;have O5:=O4.below hb9 (Nat.le_refl _);clear z0 z1 z2 z3 z4 z5 z6 z7 p0 p1 p2 y0 y1 y2 y3 y4 y5 y6 y7;obtain⟨z0,z1,z2,z3,z4,z5,z6,z7⟩:=SB.cells O5.s;have p0:w5.cell? ⟨kp,0,none⟩=some (.int .i64 q):=(cell_blk O5.p _).trans rfl;have p1:w5.cell? ⟨kp,1,none⟩=some (.int .i64 n):=(cell_blk O5.p _).trans rfl;have p2:w5.cell? ⟨kp,2,none⟩=some (.slice (some ad) vars.length vc):=(cell_blk O5.p _).trans rfl;have hb10:=hb8.trans (lower_below hb9 hb8.size);have kd5:=kd w5 hb10)|(go_at_call 146;refine (HN _).mono ?_;rintro e w6 ⟨rfl,hb11⟩;have hb12:=hb10.trans (lower_below hb11 hb10.size);have g0:=(S.below hb12).cell 0 (by decide);unfold sv at g0))
      exact bodyPost_ret (v:= .iface 205 (.pointer (some (A 0)))) (by simp [results,Tryz.results107,go_sem]) rfl ⟨by rw [show R=101 from hRv];rfl,hb12⟩
     ·have HN:=fun w0=>src_number w0 q n s x6 x7 hq hnum
      unfold stmtV at HN
      have hRv:=Lib.hid (show R=0 from (show R=_ from hR).trans (Al.oneF_ok hg hin2 hsh hkk hnum))
      clear hin2 hrange hg hgx hnum hsh
      go_wp2_with (first|(go_at_call 145;refine HSH.mono ?_;rintro e w5 ⟨rfl,hb9⟩;have O5:=O4.below hb9 (Nat.le_refl _);clear z0 z1 z2 z3 z4 z5 z6 z7 p0 p1 p2 y0 y1 y2 y3 y4 y5 y6 y7;obtain⟨z0,z1,z2,z3,z4,z5,z6,z7⟩:=SB.cells O5.s;have p0:w5.cell? ⟨kp,0,none⟩=some (.int .i64 q):=(cell_blk O5.p _).trans rfl;have p1:w5.cell? ⟨kp,1,none⟩=some (.int .i64 n):=(cell_blk O5.p _).trans rfl;have p2:w5.cell? ⟨kp,2,none⟩=some (.slice (some ad) vars.length vc):=(cell_blk O5.p _).trans rfl;have hb10:=hb8.trans (lower_below hb9 hb8.size);have kd5:=kd w5 hb10)|(go_at_call 146;refine (HN _).mono ?_;rintro e w6 ⟨rfl,hb11⟩))
      exact bodyPost_ret (v:=Value.nilIface) (by simp [results,Tryz.results107,go_sem]) rfl ⟨by rw [show R=0 from hRv];rfl,hb10.trans (lower_below hb11 hb10.size)⟩
    ·have HSH:=src_shape_no wr s (A6:=A6) (A7:=A7) (c6:=c6) (c7:=c7) (g:=g) word (fun h=>hsh ⟨h.d,h.a,h.b,h.c,h.k,h.body,h.other⟩)
     rw [<-(show x6=_ from hx6),<-(show x7=_ from hx7)] at HSH
     unfold stmtV formV at HSH
     rw [show g.d=true from hgd] at HSH
     have hRv:=Lib.hid (show R=104 from (show R=_ from hR).trans (Al.oneF_bad hg hin2 hsh))
     clear hin2 hrange hg hgx hsh
     go_wp2_with (first|(go_at_call 145;refine HSH.mono ?_;rintro e w5 ⟨rfl,hb9⟩;have hb10:=hb8.trans (lower_below hb9 hb8.size);have g5:=(S.below hb10).cell 5 (by decide);unfold sv at g5))
     exact bodyPost_ret (v:= .iface 205 (.pointer (some (A 5)))) (by simp [results,Tryz.results107,go_sem]) rfl ⟨by rw [show R=104 from hRv];rfl,hb10⟩
end Go.Proofs.YtkplfaionpplaaaGreatDoor
namespace Go.Proofs.YtkplfaionpplaaaGreatDoor.Al
mutual
def flatDS:Stmt->Nat->List (Stmt×Nat)
 |⟨op,d,a,b,c,k,body,els⟩,n=>(⟨op,d,a,b,c,k,body,els⟩,n) :: (flatDL body (n+1)++flatDL els (n+1))
def flatDL:List Stmt->Nat->List (Stmt×Nat)
 |[],_=>[]
 |s :: l,n=>flatDS s n++flatDL l n
end
theorem flatDS_eq (s:Stmt)(n:Nat):flatDS s n=(s,n) :: (flatDL s.body (n+1)++flatDL s.els (n+1)):=by cases s;simp [flatDS]
theorem flatDL_append (n:Nat):∀ (l m:List Stmt),flatDL (l++m) n=flatDL l n++flatDL m n
 |[],m=>by simp [flatDL]
 |s :: l,m=>by simp only [List.cons_append,flatDL,flatDL_append n l m,List.append_assoc]
theorem flatDL_one (s:Stmt)(n:Nat):flatDL [s] n=flatDS s n:=by simp [flatDL]
mutual
theorem flatDS_map:∀ (s:Stmt) (n:Nat),(flatDS s n).map Prod.fst=flatS s
 |⟨op,d,a,b,c,k,body,els⟩,n=>by simp only [flatDS,flatS,List.map_cons,List.map_append,flatDL_map body,flatDL_map els]
theorem flatDL_map:∀ (l:List Stmt) (n:Nat),(flatDL l n).map Prod.fst=flatL l
 |[],_=>by simp [flatDL,flatL]
 |s :: l,n=>by simp only [flatDL,flatL,List.map_append,flatDS_map s,flatDL_map l]
end
theorem flatDL_len (l:List Stmt)(n:Nat):(flatDL l n).length=(flatL l).length:=by rw [<-flatDL_map l n,List.length_map]
mutual
theorem flatDS_deep:∀ (s:Stmt) (n:Nat),∀ x∈flatDS s n,(x.2:Int)<=n+depthS s
 |⟨op,d,a,b,c,k,body,els⟩,n=>by
  intro x hx
  simp only [flatDS,List.mem_cons,List.mem_append] at hx
  unfold depthS
  rcases hx with rfl|hx|hx
  ·dsimp only;omega
  ·have:=flatDL_deep body (n+1) x hx;omega
  ·have:=flatDL_deep els (n+1) x hx;omega
theorem flatDL_deep:∀ (l:List Stmt) (n:Nat),∀ x∈flatDL l n,(x.2:Int)<=n+depthL l
 |[],_=>by simp [flatDL]
 |s :: l,n=>by
  intro x hx
  simp only [flatDL,List.mem_append] at hx
  unfold depthL
  rcases hx with hx|hx
  ·have:=flatDS_deep s n x hx;omega
  ·have:=flatDL_deep l n x hx;omega
end
mutual
theorem deep_flatDS (m:Nat):∀ (s:Stmt) (n:Nat),(∀ x∈flatDS s n,x.2<=m)->n+depthS s<=m
 |⟨op,d,a,b,c,k,body,els⟩,n=>by
  intro h
  simp only [flatDS,List.mem_cons,List.mem_append] at h
  have h0:=h _ (.inl rfl)
  dsimp only at h0
  have h1:=deep_flatDL m body (n+1) (fun x hx=>h x (.inr (.inl hx))) (by omega)
  have h2:=deep_flatDL m els (n+1) (fun x hx=>h x (.inr (.inr hx))) (by omega)
  unfold depthS
  omega
theorem deep_flatDL (m:Nat):∀ (l:List Stmt) (n:Nat),(∀ x∈flatDL l n,x.2<=m)->n<=m+1->n+depthL l<=m
 |[],n=>by intro _ h;simp only [depthL];omega
 |s :: l,n=>by
  intro h hn
  simp only [flatDL,List.mem_append] at h
  have h1:=deep_flatDS m s n (fun x hx=>h x (.inl hx))
  have h2:=deep_flatDL m l n (fun x hx=>h x (.inr hx)) hn
  unfold depthL
  omega
end
def stopAt (bad:Stmt->Nat->Bool):List (Stmt×Nat)->Nat->Option (Nat×Stmt)
 |[],_=>none
 |x :: l,j=>if bad x.1 x.2 then some (j,x.1) else stopAt bad l (j+1)
theorem stopAt_append (bad:Stmt->Nat->Bool):∀ (l m:List (Stmt×Nat)) (j:Nat),stopAt bad (l++m) j=(match stopAt bad l j with|none=>stopAt bad m (j+l.length)|some r=>some r)
 |[],m,j=>by simp [stopAt]
 |x :: l,m,j=>by
  simp only [List.cons_append,stopAt]
  by_cases h:bad x.1 x.2=true
  ·rw [if_pos h,if_pos h]
  ·rw [if_neg h,if_neg h,stopAt_append bad l m (j+1),List.length_cons,show j+1+l.length=j+(l.length+1) by omega]
theorem stopAt_none {bad:Stmt->Nat->Bool}:∀ {l:List (Stmt×Nat)} {j:Nat},stopAt bad l j=none->∀ x∈l,bad x.1 x.2=false
 |[],j,_=>by simp
 |x :: l,j,h=>by
  simp only [stopAt] at h
  split at h
  ·cases h
  ·rename_i h1
   intro y hy
   rcases List.mem_cons.1 hy with rfl|hy
   ·simpa using h1
   ·exact stopAt_none h y hy
theorem stopAt_some {bad:Stmt->Nat->Bool}:∀ {l:List (Stmt×Nat)} {j i:Nat} {s:Stmt},stopAt bad l j=some (i,s)->∃ d,(s,d)∈l/\bad s d=true/\i<j+l.length
 |[],j,_,_,h=>by simp [stopAt] at h
 |x :: l,j,i,s,h=>by
  simp only [stopAt] at h
  split at h
  ·rename_i h1
   cases h
   exact⟨x.2,List.mem_cons_self,h1,by simp⟩
  ·obtain⟨d,h2,h3,h4⟩:=stopAt_some h
   exact⟨d,List.mem_cons_of_mem _ h2,h3,by simp;omega⟩
theorem stopAt_ok {bad:Stmt->Nat->Bool}:∀ {l:List (Stmt×Nat)} {j:Nat},(∀ x∈l,bad x.1 x.2=false)->stopAt bad l j=none
 |[],j,_=>rfl
 |x :: l,j,h=>by
  unfold stopAt
  rw [if_neg (by rw [h x List.mem_cons_self];simp)]
  exact stopAt_ok fun y hy=>h y (List.mem_cons_of_mem _ hy)
theorem firstF_stop (f:Stmt->Int):∀ (l:List (Stmt×Nat)) (j:Nat),firstF f (l.map Prod.fst) j=(match stopAt (fun s _=>f s !=0) l j with|none=> .fine|some (i,s)=> .at_ (f s) i)
 |[],j=>rfl
 |x :: l,j=>by
  simp only [List.map_cons,firstF,stopAt]
  by_cases h:f x.1=0
  ·rw [if_neg (by simp [h]),if_neg (by simp [h]),<-firstF_stop f l (j+1)];rfl
  ·rw [if_pos h,if_pos (by simp [h])]
theorem stop_deep (l:List Stmt)(h:stopAt (fun _ d=>decide (6<d)) (flatDL l 0) 0=none):depthL l<=6:=by
 have:=deep_flatDL 6 l 0 (fun x hx=>by have:=stopAt_none h x hx;simpa using this) (by omega)
 omega
theorem stop_deep_no (l:List Stmt){r:Nat×Stmt}(h:stopAt (fun _ d=>decide (6<d)) (flatDL l 0) 0=some r):6<depthL l:=by
 obtain⟨i,s⟩:=r
 obtain⟨d,h1,h2,_⟩:=stopAt_some h
 have h3:=flatDL_deep l 0 _ h1
 have h4:6<d:=by simpa using h2
 dsimp only at h3
 omega
end Go.Proofs.YtkplfaionpplaaaGreatDoor.Al
