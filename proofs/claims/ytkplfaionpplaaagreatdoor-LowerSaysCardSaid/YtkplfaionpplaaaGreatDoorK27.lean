/- Part 27: B51. -/
import Derived.Test.YtkplfaionpplaaaGreatDoorK26
set_option maxRecDepth 100000
set_option maxHeartbeats 6400000
set_option linter.unusedVariables false
set_option linter.unusedSimpArgs false
namespace Go.Proofs.YtkplfaionpplaaaGreatDoor
open Go.RowKit Go.Proofs.YtkplfaionpplaaaGreatDoorW.PrintLast
structure RB (w:World)(kp ks kf:Nat)(p:Al.Prog)(Va Ab:Option Addr)(vc cb:Nat)(s:Al.Stmt)(x6 x7:Value)(g:Al.Has):Prop where
 p:PBox w kp p Va Ab vc cb
 s:SB w ks s x6 x7
 f:w.heap[kf]?=some (.cells #[.bool g.d,.bool g.a,.bool g.b,.bool g.c,.bool g.k,.bool g.body,.bool g.other] 176 (0,0))
section
variable {w w':World} {kp ks kf:Nat} {p:Al.Prog} {Va Ab:Option Addr} {vc cb:Nat} {s:Al.Stmt} {x6 x7:Value} {g:Al.Has}
theorem RB.below (h:RB w kp ks kf p Va Ab vc cb s x6 x7 g){B:Nat}(hb:Below B w w')(hB:w.heap.size<=B):RB w' kp ks kf p Va Ab vc cb s x6 x7 g:=
 ⟨below_blk hb h.p (Nat.lt_of_lt_of_le (blk_lt h.p) hB),below_blk hb h.s (Nat.lt_of_lt_of_le (blk_lt h.s) hB),below_blk hb h.f (Nat.lt_of_lt_of_le (blk_lt h.f) hB)⟩
theorem RB.alloc (h:RB w kp ks kf p Va Ab vc cb s x6 x7 g)(o:Obj):RB (w.alloc o) kp ks kf p Va Ab vc cb s x6 x7 g:=⟨alloc_blk _ h.p,alloc_blk _ h.s,alloc_blk _ h.f⟩
theorem RB.grow (h:RB w kp ks kf p Va Ab vc cb s x6 x7 g){base:Nat}{v:Value}{n size:Nat}{xs:List Value}(hown:w.ownsRow base 3 size v n xs)(hg:w.grownBy w' v.ownBlock):RB w' kp ks kf p Va Ab vc cb s x6 x7 g:=
 ⟨grow_blk hg h.p (own_ne_blk hown h.p (by decide)),grow_blk hg h.s (own_ne_blk hown h.s (by decide)),grow_blk hg h.f (own_ne_blk hown h.f (by decide))⟩
end
def shapeBad (g:Al.Has)(s:Al.Stmt):Bool:=(!g.d && s.d !=0) || (!g.a && s.a !=0) || (!g.b && s.b !=0) || (!g.c && s.c !=0) || (!g.k && s.k !=0) || (!g.body && !s.body.isEmpty) || (!g.other && !s.els.isEmpty)
theorem len_bool {α:Type}(l:List α):decide (0<(l.length:Int))=!l.isEmpty:=by cases l<;> simp
def outR (nv:Nat)(v:Int):Bool:=decide (v<0\/v>=nv)
theorem oneF_some {q:Int}{vars:List Al.Var}{s:Al.Stmt}{g:Al.Has}(hg:Al.hasOf s.op=some g):Al.oneF q vars s=(if (Al.usesOf s++(if g.d then [s.d] else [])).any (outR vars.length) then 107 else if shapeBad g s then 104 else if g.d && (Al.varAt vars s.d).kind == 1 then 104 else if !Al.numOk q s then 101 else 0):=by
 unfold Al.oneF shapeBad
 rw [hg]
 rfl
theorem oneF_none {q:Int}{vars:List Al.Var}{s:Al.Stmt}(hg:Al.hasOf s.op=none):Al.oneF q vars s=106:=by unfold Al.oneF;rw [hg]
set_option maxHeartbeats 40000000 in
theorem ref_one {w:World}{p:Al.Prog}{Va Ab:Option Addr}{vc cb:Nat}(hp:PLies w p Va Ab vc cb)(hvl:p.vars.length<=12)(s:Al.Stmt){A6 A7:Option Addr}{c6 c7:Nat}(hq:0<=p.q/\p.q<8388608):
  Calls Tryz.prog 87 #[progV p Va Ab vc cb,.agg (stmtV s (.slice A6 s.body.length c6) (.slice A7 s.els.length c7))] w fun e w'=>e= .returned (.int .i64 (Al.oneF p.q p.vars s))/\Below w.heap.size w w':=by
 obtain⟨j0,hj0,jz0,jz1,jz2⟩:=info_parts Tryz.infoInt
 obtain⟨R,hR⟩:∃ R,R=Al.oneF p.q p.vars s:=⟨_,rfl⟩
 rw [<-hR]
 obtain⟨x6,hx6⟩:∃ x6,x6=Value.slice A6 s.body.length c6:=⟨_,rfl⟩
 obtain⟨x7,hx7⟩:∃ x7,x7=Value.slice A7 s.els.length c7:=⟨_,rfl⟩
 rw [<-hx6,<-hx7]
 replace hx6:=Lib.hid hx6
 replace hx7:=Lib.hid hx7
 obtain⟨W,hW⟩:∃ W,W=(w.alloc (.cells #[.int .i64 p.q,.int .i64 p.n,.slice Va p.vars.length vc,.slice Ab p.body.length cb] 27)).alloc (.cells (stmtV s x6 x7) 66):=⟨_,rfl⟩
 obtain⟨kp,hkp⟩:∃ kp,kp=w.heap.size:=⟨_,rfl⟩
 obtain⟨ks,hks⟩:∃ ks,ks=kp+1:=⟨_,rfl⟩
 have hb0:Below w.heap.size w W:=by rw [hW];exact alloc_two _ _ _
 have hP:PBox W kp p Va Ab vc cb:=by rw [hW,hkp];exact alloc_blk _ (heap_alloc_new w _)
 have hS:SB W ks s x6 x7:=by rw [hW,hks,hkp];exact alloc_at _ _ _
 have hpl:=blk_lt hP
 have hsl:=blk_lt hS
 have HF:=ref_of W s.op
 unfold hasV at HF
 go_enter Tryz.func87,Tryz.ntmps87
 unfold stmtV progV
 go_wp2_with fail
 have hWu:W=(w.alloc (.cells #[.int .i64 p.q,.int .i64 p.n,.slice Va p.vars.length vc,.slice Ab p.body.length cb] 27)).alloc (.cells #[.int .i64 s.op,.int .i64 s.d,.int .i64 s.a,.int .i64 s.b,.int .i64 s.c,.int .i64 s.k,x6,x7] 66):=hW
 rw [<-hWu]
 simp only [<-hkp,<-hks]
 replace hkp:=Lib.hid hkp
 replace hks:=Lib.hid hks
 clear hW hWu
 cases hg:Al.hasOf s.op with
 |none=>
  have hRv:R=106:=by rw [hR,oneF_none hg]
  have hG:hasG s.op=no7:=by unfold hasG;rw [hg];rfl
  rw [hG,hg] at HF
  unfold no7 at HF
  dsimp only [Option.isSome] at HF
  clear hR
  go_wp2_with (first|(go_at_call 128;refine HF.mono ?_;rintro e w1 ⟨rfl,hb1⟩))
  exact bodyPost_ret (v:= .int .i64 106) (by simp [results,Tryz.results87,go_sem]) rfl ⟨by rw [hRv],(hb0.trans (lower_below hb1 hb0.size)).alloc (Nat.le_trans hb0.size hb1.size) _⟩
 |some g=>
  have hG:hasG s.op=g:=by unfold hasG;rw [hg];rfl
  rw [hG,hg] at HF
  dsimp only [Option.isSome] at HF
  rw [oneF_some hg] at hR
  obtain⟨L,hL⟩:∃ L,L=Al.usesOf s:=⟨_,rfl⟩
  have HU:=fun w0=>ref_uses w0 s x6 x7
  rw [<-hL] at hR
  simp only [<-hL] at HU
  have hLl:L.length<=3:=by
   rw [hL];unfold Al.usesOf;rw [hg]
   simp only [List.length_append]
   (repeat' split)<;> simp
  obtain⟨L2,hL2⟩:∃ L2,L2=L++(if g.d=true then [s.d] else []):=⟨_,rfl⟩
  rw [<-hL2] at hR
  have hL2l:L2.length<=4:=by rw [hL2];simp only [List.length_append];split<;> simp<;> omega
  have hmemd:g.d=true->s.d∈L2:=fun h=>by rw [hL2,if_pos h];simp
  clear hL hG
  unfold stmtV at HU
  go_wp2_with (first|(go_at_call 128;refine HF.mono ?_;rintro e w1 ⟨rfl,hb1⟩;have U0:∀ o,SB (w1.alloc o) ks s x6 x7:=fun o=>alloc_blk o (below_blk hb1 hS hsl);have V0:∀ o,PBox (w1.alloc o) kp p Va Ab vc cb:=fun o=>alloc_blk o (below_blk hb1 hP hpl);have v2:=fun o=>(V0 o).cells.2.2.1;have z0:=fun o=>(U0 o).cells.1;have z1:=fun o=>(U0 o).cells.2.1;have z2:=fun o=>(U0 o).cells.2.2.1;have z3:=fun o=>(U0 o).cells.2.2.2.1;have z4:=fun o=>(U0 o).cells.2.2.2.2.1;have z5:=fun o=>(U0 o).cells.2.2.2.2.2.1;have z6:=fun o=>(U0 o).cells.2.2.2.2.2.2.1;have z7:=fun o=>(U0 o).cells.2.2.2.2.2.2.2))
  obtain⟨W1,hW1⟩:∃ W1,W1=w1.alloc (.cells #[.bool g.d,.bool g.a,.bool g.b,.bool g.c,.bool g.k,.bool g.body,.bool g.other] 176):=⟨_,rfl⟩
  obtain⟨kf,hkf⟩:∃ kf,kf=w1.heap.size:=⟨_,rfl⟩
  have O1:RB W1 kp ks kf p Va Ab vc cb s x6 x7 g:=by rw [hW1,hkf];exact⟨V0 _,U0 _,heap_alloc_new _ _⟩
  have hb2:Below w.heap.size w W1:=by rw [hW1];exact (hb0.trans (lower_below hb1 hb0.size)).alloc (Nat.le_trans hb0.size hb1.size) _
  rw [<-hW1]
  simp only [<-hkf]
  replace hkf:=Lib.hid hkf
  clear hW1 HF U0 V0 v2 z0 z1 z2 z3 z4 z5 z6 z7 hb0 hb1 hP hS hpl hsl
  replace hR:=Lib.hid hR
  have HUU:=HU W1
  clear HU
  refine HUU.mono ?_
  rintro e w2 ⟨v,rfl,hown,hb3⟩
  obtain⟨av,cv,rfl⟩:=own_slice hown
  have O2:=O1.below hb3 (Nat.le_refl _)
  have hb4:Below w.heap.size w w2:=hb2.trans (lower_below hb3 hb2.size)
  have hown2:=own_base hown hb2.size
  clear HUU O1 hb3 hb2 hown
  cases hgd:g.d with
  |true=>
   rw [hgd] at hL2 hR hmemd
   simp only [if_true] at hL2 hR
   have hLn:L2.length=L.length+1:=by rw [hL2];simp
   replace hL2:=Lib.hid hL2
   replace hLn:=Lib.hid hLn
   have f0:w2.cell? ⟨kf,0,none⟩=some (.bool true):=(cell_blk O2.f _).trans (congrArg (fun b=>some (Value.bool b)) hgd)
   have z1:=O2.s.cells.2.1
   have own1:=hown2.alloc (.cells #[.int .i64 s.d] 3)
   have nb:=heap_alloc_new w2 (.cells #[.int .i64 s.d] 3)
   go_wp2_with (first|(at_builtin;refine wpList_append_own_at _ rfl (.tmp 25) (.tmp 28) 86 rfl w.heap.size 3 j0 _ 1 8 Tryz.underlying86 hj0 jz0 jz1 jz2 rfl (by omega) _ _ _ rfl own1 ⟨w2.heap.size,0,none⟩ 1 1 [.int .i64 s.d] rfl rfl (World.news_of_block nb) (by simp [Value.oneCell']) (by unfold maxLen;omega) (by omega) (by have:=hb4.size;simp;omega) ?_;intro v2 w3 hown3' hgrow hnil hat;obtain⟨a3,c3,rfl⟩:=own_slice hown3';rw [<-(show L2.length=_ from hLn)] at hown3' ⊢;have hown3:w3.ownsRow w.heap.size 3 1 (.slice a3 L2.length c3) L2.length (intsV L2):=by { rw [show L2=_ from hL2];rw [show L2=_ from hL2] at hown3';simpa [intsV] using hown3'};have O3:=(O2.alloc _).grow own1 hgrow;have hb5:=below_grown (hb4.alloc hb4.size _) hgrow (fun k hk=>(own1.lt k hk).1) (by have:=hb4.size;simp;omega)))
   clear own1 nb hgrow hown3' f0 z1 O2 hb4 hown2 hnil hat
   have I4:=own_ints hown3
   clear hown3
   go_loopg [9] (L2.length+1) (fun gk v9 w'=>∃ j:Nat,v9= .int .i64 j/\(L2.take j).any (outR p.vars.length)=false/\j+gk=L2.length+1/\j<=L2.length/\w'=w3)
   case atStart=>exact⟨0,rfl,by simp,by omega,by omega,rfl⟩
   case round=>
    obtain⟨j,rfl,hno,hj,hj2,hww⟩:=hrel
    subst hww
    by_cases hjl:j<L2.length
    ·obtain⟨k1,rfl⟩:∃ k1,gk=k1+1:=⟨gk - 1,by omega⟩
     have hnx:(L2.take (j+1)).any (outR p.vars.length)=((L2.take j).any (outR p.vars.length) || outR p.vars.length L2[j]):=by rw [List.take_succ_eq_append_getElem hjl,List.any_append];simp
     obtain⟨ag,he,hcell⟩:=ints_get I4 hjl
     have hall:outR p.vars.length L2[j]=true->L2.any (outR p.vars.length)=true:=fun h=>List.any_eq_true.2 ⟨_,List.getElem_mem hjl,h⟩
     obtain⟨x,hx⟩:∃ x,x=L2[j]:=⟨_,rfl⟩
     rw [<-hx] at hcell hnx hall
     replace hx:=Lib.hid hx
     subst he
     clear I4
     have t1:decide ((j:Int)<(L2.length:Int))=true:=by simp;omega
     have t2:(0:Int)<=(j:Int):=by omega
     have t3:(j:Int)<(L2.length:Int):=by omega
     by_cases c0:x<0
     ·have e0:decide (x<0)=true:=decide_eq_true c0
      have hRv:R=107:=by rw [show R=_ from hR,hall (by unfold outR;exact decide_eq_true (.inl c0)),if_pos rfl]
      clear hall hnx hno
      go_wp2_with fail
      exact bodyPost_ret (v:= .int .i64 107) (by simp [results,Tryz.results87,go_sem]) rfl ⟨by first|rw [hRv]|rfl,hb5⟩
     have e0:decide (x<0)=false:=decide_eq_false c0
     by_cases c1:(p.vars.length:Int)<=x
     ·have e1:decide ((p.vars.length:Int)<=x)=true:=decide_eq_true c1
      have hRv:R=107:=by rw [show R=_ from hR,hall (by unfold outR;exact decide_eq_true (.inr c1)),if_pos rfl]
      clear hall hnx hno
      go_wp2_with fail
      exact bodyPost_ret (v:= .int .i64 107) (by simp [results,Tryz.results87,go_sem]) rfl ⟨by first|rw [hRv]|rfl,hb5⟩
     have e1:decide ((p.vars.length:Int)<=x)=false:=decide_eq_false c1
     have ho:outR p.vars.length x=false:=by unfold outR;exact decide_eq_false (by omega)
     rw [hno,ho] at hnx
     replace hnx:=Lib.hid hnx
     clear hall ho hno
     go_wp2_with fail
     go_roundg k1
     case measure=>omega
     case rel=>exact⟨j+1,by simp,hnx,by omega,by omega,rfl⟩
    ·have hje:j=L2.length:=by omega
     have t1:decide ((j:Int)<(L2.length:Int))=false:=by simp;omega
     have hR2:=show R=_ from hR
     have hany:L2.any (outR p.vars.length)=false:=by rw [<-hno,hje,List.take_length]
     rw [hany,if_neg (by simp)] at hR2
     clear hno hR I4
     obtain⟨z0,z1,z2,z3,z4,z5,z6',z7'⟩:=O3.s.cells
     have z6:=z6'.trans (congrArg some (show x6=_ from hx6))
     have z7:=z7'.trans (congrArg some (show x7=_ from hx7))
     clear z6' z7'
     have f0:wr.cell? ⟨kf,0,none⟩=some (.bool true):=(cell_blk O3.f _).trans (congrArg (fun b=>some (Value.bool b)) hgd)
     have f1:wr.cell? ⟨kf,1,none⟩=some (.bool g.a):=(cell_blk O3.f _).trans rfl
     have f2:wr.cell? ⟨kf,2,none⟩=some (.bool g.b):=(cell_blk O3.f _).trans rfl
     have f3:wr.cell? ⟨kf,3,none⟩=some (.bool g.c):=(cell_blk O3.f _).trans rfl
     have f4:wr.cell? ⟨kf,4,none⟩=some (.bool g.k):=(cell_blk O3.f _).trans rfl
     have f5:wr.cell? ⟨kf,5,none⟩=some (.bool g.body):=(cell_blk O3.f _).trans rfl
     have f6:wr.cell? ⟨kf,6,none⟩=some (.bool g.other):=(cell_blk O3.f _).trans rfl
     obtain⟨p0,p1,p2,p3⟩:=O3.p.cells
     obtain⟨bad,hbad⟩:∃ bad,bad=shapeBad g s:=⟨_,rfl⟩
     rw [<-hbad] at hR2
     have hbad2:(((((((!true && s.d !=0) || (!g.a && s.a !=0)) || (!g.b && s.b !=0)) || (!g.c && s.c !=0)) || (!g.k && s.k !=0)) || (!g.body && decide (0<(s.body.length:Int)))) || (!g.other && decide (0<(s.els.length:Int))))=bad:=by rw [hbad];unfold shapeBad;rw [hgd,len_bool,len_bool]
     replace hbad2:=Lib.hid hbad2
     clear hbad
     go_upto_region 13 with (fail)
     go_cut [118] from 49 to 118 (fun v118 wc=>v118= .bool bad/\wc=wr)
     case first=>
      refine wp_region_list ?_
      refine clauseD (x:=s.d) (b:=true) (kf:=kf) (ks:=ks) (show 57<=136 by decide) rfl rfl rfl f0 z1 ?_
      intro a1 q1' d1 k1 v1
      have q1:a1.tmps.size=136:=q1'
      clear q1'
      refine clauseI 57 8 56 1 2 (b:=g.a) (acc:=_) (kf:=kf) (ks:=ks) (by omega) (by omega) (by omega) (by omega) v1 ((k1 5 (by omega)).trans rfl) ((k1 3 (by omega)).trans rfl) (by omega) (by omega) rfl rfl f1 z2 ?_
      intro a2 q2' d2' k2' v2
      have q2:=q2'.trans q1
      have d2:=d2'.trans d1
      have k2:∀ k,k<49\/67<=k->a2.tmps[k]?=_:=fun k hk=>(k2' k (by omega)).trans (k1 k (by omega))
      clear q2' d2' k2' q1 d1 k1 v1
      refine clauseI 67 18 66 2 3 (b:=g.b) (acc:=_) (kf:=kf) (ks:=ks) (by omega) (by omega) (by omega) (by omega) v2 ((k2 5 (by omega)).trans rfl) ((k2 3 (by omega)).trans rfl) (by omega) (by omega) rfl rfl f2 z3 ?_
      intro a3 q3' d3' k3' v3
      have q3:=q3'.trans q2
      have d3:=d3'.trans d2
      have k3:∀ k,k<49\/77<=k->a3.tmps[k]?=_:=fun k hk=>(k3' k (by omega)).trans (k2 k (by omega))
      clear q3' d3' k3' q2 d2 k2 v2
      refine clauseI 77 28 76 3 4 (b:=g.c) (acc:=_) (kf:=kf) (ks:=ks) (by omega) (by omega) (by omega) (by omega) v3 ((k3 5 (by omega)).trans rfl) ((k3 3 (by omega)).trans rfl) (by omega) (by omega) rfl rfl f3 z4 ?_
      intro a4 q4' d4' k4' v4
      have q4:=q4'.trans q3
      have d4:=d4'.trans d3
      have k4:∀ k,k<49\/87<=k->a4.tmps[k]?=_:=fun k hk=>(k4' k (by omega)).trans (k3 k (by omega))
      clear q4' d4' k4' q3 d3 k3 v3
      refine clauseI 87 38 86 4 5 (b:=g.k) (acc:=_) (kf:=kf) (ks:=ks) (by omega) (by omega) (by omega) (by omega) v4 ((k4 5 (by omega)).trans rfl) ((k4 3 (by omega)).trans rfl) (by omega) (by omega) rfl rfl f4 z5 ?_
      intro a5 q5' d5' k5' v5
      have q5:=q5'.trans q4
      have d5:=d5'.trans d4
      have k5:∀ k,k<49\/97<=k->a5.tmps[k]?=_:=fun k hk=>(k5' k (by omega)).trans (k4 k (by omega))
      clear q5' d5' k5' q4 d4 k4 v4
      refine clauseL 97 48 96 5 6 (b:=g.body) (acc:=_) (kf:=kf) (ks:=ks) rfl (by omega) (by omega) (by omega) v5 ((k5 5 (by omega)).trans rfl) ((k5 3 (by omega)).trans rfl) (by omega) (by omega) rfl rfl f5 z6 ?_
      intro a6 q6' d6' k6' v6
      have q6:=q6'.trans q5
      have d6:=d6'.trans d5
      have k6:∀ k,k<49\/108<=k->a6.tmps[k]?=_:=fun k hk=>(k6' k (by omega)).trans (k5 k (by omega))
      clear q6' d6' k6' q5 d5 k5 v5
      refine clauseL 108 59 107 6 7 (b:=g.other) (acc:=_) (kf:=kf) (ks:=ks) rfl (by omega) (by omega) (by omega) v6 ((k6 5 (by omega)).trans rfl) ((k6 3 (by omega)).trans rfl) (by omega) (by omega) rfl rfl f6 z7 ?_
      intro a7 q7' d7' k7' v7
      have q7:=q7'.trans q6
      have d7:=d7'.trans d6
      have k7:∀ k,k<49\/119<=k->a7.tmps[k]?=_:=fun k hk=>(k7' k (by omega)).trans (k6 k (by omega))
      clear q7' d7' k7' q6 d6 k6 v6
      rw [show _=bad from hbad2] at v7
      refine frame_lit (v:= .bool bad) (G:=fun a=>wpList _ _ _ [] a _) q7 d7 (fun k hk=>(k7 k (by omega)).trans rfl) v7 ?_
      clear q7 d7 k7 v7 hbad2
      intro u49 u50 u51 u52 u53 u54 u55 u56 u57 u58 u59 u60 u61 u62 u63 u64 u65 u66 u67 u68 u69 u70 u71 u72 u73 u74 u75 u76 u77 u78 u79 u80 u81 u82 u83 u84 u85 u86 u87 u88 u89 u90 u91 u92 u93 u94 u95 u96 u97 u98 u99 u100 u101 u102 u103 u104 u105 u106 u107 u108 u109 u110 u111 u112 u113 u114 u115 u116 u117
      go_wp2_with fail
      go_meet
      exact⟨rfl,rfl⟩
     case rest=>
     obtain⟨rfl,rfl⟩:=hcut
     clear hbad2
     cases bad
     case true=>
      have hRv:R=104:=by rw [hR2,if_pos rfl]
      clear hR2
      go_wp2_with fail
      exact bodyPost_ret (v:= .int .i64 104) (by simp [results,Tryz.results87,go_sem]) rfl ⟨by first|rw [hRv]|rfl,hb5⟩
     rw [if_neg (by simp)] at hR2
     have hdr:0<=s.d/\s.d<p.vars.length:=by
      have h1:L2.any (outR p.vars.length)=false:=hany
      have h2:=List.any_eq_false.1 h1 s.d (hmemd (by trivial))
      unfold outR at h2
      simp at h2
      omega
     have hd0:=hdr.1
     have hd1:=hdr.2
     obtain⟨ad,hva,kk,_⟩:=at_T901 hp.v s.d hd0 hd1
     have kd:=cell_since hb5 kk
     subst hva
     have hvk:Al.varAt p.vars s.d=rd_T901 p.vars s.d:=rfl
     rw [hvk] at hR2
     clear hvk
     by_cases hk1:(rd_T901 p.vars s.d).kind=1
     ·have hkb:((rd_T901 p.vars s.d).kind == 1)=true:=by rw [hk1];rfl
      have hRv:R=104:=by rw [hR2,hkb];rfl
      clear hR2 hk1
      go_wp2_with fail
      exact bodyPost_ret (v:= .int .i64 104) (by simp [results,Tryz.results87,go_sem]) rfl ⟨by first|rw [hRv]|rfl,hb5⟩
     have hkb:((rd_T901 p.vars s.d).kind == 1)=false:=beq_false_of_ne hk1
     rw [hkb] at hR2
     simp only [Bool.and_false,Bool.false_eq_true,if_false] at hR2
     clear hk1
     obtain⟨nk,hnk⟩:∃ nk,nk=Al.numOk p.q s:=⟨_,rfl⟩
     have HK:=fun w0=>ref_K w0 p.q p.n s (.slice A6 s.body.length c6) (.slice A7 s.els.length c7) hq
     unfold stmtV at HK
     rw [<-hnk] at HK hR2
     clear hnk
     cases nk
     ·have hRv:R=101:=by rw [hR2];rfl
      clear hR2
      go_wp2_with (first|(go_at_call 130;refine (HK _).mono ?_;rintro e w5 ⟨rfl,hb9⟩;have hb10:=hb5.trans (lower_below hb9 hb5.size)))
      exact bodyPost_ret (v:= .int .i64 101) (by simp [results,Tryz.results87,go_sem]) rfl ⟨by first|rw [hRv]|rfl,hb10⟩
     ·have hRv:R=0:=by rw [hR2];rfl
      clear hR2
      go_wp2_with (first|(go_at_call 130;refine (HK _).mono ?_;rintro e w5 ⟨rfl,hb9⟩;have hb10:=hb5.trans (lower_below hb9 hb5.size)))
      exact bodyPost_ret (v:= .int .i64 0) (by simp [results,Tryz.results87,go_sem]) rfl ⟨by first|rw [hRv]|rfl,hb10⟩
  |false=>
   rw [hgd] at hL2 hR hmemd
   simp only [if_false,Bool.false_eq_true,List.append_nil] at hL2 hR
   subst hL2
   have f0:w2.cell? ⟨kf,0,none⟩=some (.bool false):=(cell_blk O2.f _).trans (congrArg (fun b=>some (Value.bool b)) hgd)
   have hown3:=hown2
   have O3:=O2
   have hb5:=hb4
   go_wp2_with fail
   clear f0 O2 hb4 hown2
   have I4:=own_ints hown3
   clear hown3
   go_loopg [9] (L2.length+1) (fun gk v9 w'=>∃ j:Nat,v9= .int .i64 j/\(L2.take j).any (outR p.vars.length)=false/\j+gk=L2.length+1/\j<=L2.length/\w'=w2)
   case atStart=>exact⟨0,rfl,by simp,by omega,by omega,rfl⟩
   case round=>
    obtain⟨j,rfl,hno,hj,hj2,hww⟩:=hrel
    subst hww
    by_cases hjl:j<L2.length
    ·obtain⟨k1,rfl⟩:∃ k1,gk=k1+1:=⟨gk - 1,by omega⟩
     have hnx:(L2.take (j+1)).any (outR p.vars.length)=((L2.take j).any (outR p.vars.length) || outR p.vars.length L2[j]):=by rw [List.take_succ_eq_append_getElem hjl,List.any_append];simp
     obtain⟨ag,he,hcell⟩:=ints_get I4 hjl
     have hall:outR p.vars.length L2[j]=true->L2.any (outR p.vars.length)=true:=fun h=>List.any_eq_true.2 ⟨_,List.getElem_mem hjl,h⟩
     obtain⟨x,hx⟩:∃ x,x=L2[j]:=⟨_,rfl⟩
     rw [<-hx] at hcell hnx hall
     replace hx:=Lib.hid hx
     subst he
     clear I4
     have t1:decide ((j:Int)<(L2.length:Int))=true:=by simp;omega
     have t2:(0:Int)<=(j:Int):=by omega
     have t3:(j:Int)<(L2.length:Int):=by omega
     by_cases c0:x<0
     ·have e0:decide (x<0)=true:=decide_eq_true c0
      have hRv:R=107:=by rw [show R=_ from hR,hall (by unfold outR;exact decide_eq_true (.inl c0)),if_pos rfl]
      clear hall hnx hno
      go_wp2_with fail
      exact bodyPost_ret (v:= .int .i64 107) (by simp [results,Tryz.results87,go_sem]) rfl ⟨by first|rw [hRv]|rfl,hb5⟩
     have e0:decide (x<0)=false:=decide_eq_false c0
     by_cases c1:(p.vars.length:Int)<=x
     ·have e1:decide ((p.vars.length:Int)<=x)=true:=decide_eq_true c1
      have hRv:R=107:=by rw [show R=_ from hR,hall (by unfold outR;exact decide_eq_true (.inr c1)),if_pos rfl]
      clear hall hnx hno
      go_wp2_with fail
      exact bodyPost_ret (v:= .int .i64 107) (by simp [results,Tryz.results87,go_sem]) rfl ⟨by first|rw [hRv]|rfl,hb5⟩
     have e1:decide ((p.vars.length:Int)<=x)=false:=decide_eq_false c1
     have ho:outR p.vars.length x=false:=by unfold outR;exact decide_eq_false (by omega)
     rw [hno,ho] at hnx
     replace hnx:=Lib.hid hnx
     clear hall ho hno
     go_wp2_with fail
     go_roundg k1
     case measure=>omega
     case rel=>exact⟨j+1,by simp,hnx,by omega,by omega,rfl⟩
    ·have hje:j=L2.length:=by omega
     have t1:decide ((j:Int)<(L2.length:Int))=false:=by simp;omega
     have hR2:=show R=_ from hR
     rw [show L2.any (outR p.vars.length)=false by rw [<-hno,hje,List.take_length],if_neg (by simp)] at hR2
     clear hno hR I4
     obtain⟨z0,z1,z2,z3,z4,z5,z6',z7'⟩:=O3.s.cells
     have z6:=z6'.trans (congrArg some (show x6=_ from hx6))
     have z7:=z7'.trans (congrArg some (show x7=_ from hx7))
     clear z6' z7'
     have f0:wr.cell? ⟨kf,0,none⟩=some (.bool false):=(cell_blk O3.f _).trans (congrArg (fun b=>some (Value.bool b)) hgd)
     have f1:wr.cell? ⟨kf,1,none⟩=some (.bool g.a):=(cell_blk O3.f _).trans rfl
     have f2:wr.cell? ⟨kf,2,none⟩=some (.bool g.b):=(cell_blk O3.f _).trans rfl
     have f3:wr.cell? ⟨kf,3,none⟩=some (.bool g.c):=(cell_blk O3.f _).trans rfl
     have f4:wr.cell? ⟨kf,4,none⟩=some (.bool g.k):=(cell_blk O3.f _).trans rfl
     have f5:wr.cell? ⟨kf,5,none⟩=some (.bool g.body):=(cell_blk O3.f _).trans rfl
     have f6:wr.cell? ⟨kf,6,none⟩=some (.bool g.other):=(cell_blk O3.f _).trans rfl
     obtain⟨p0,p1,p2,p3⟩:=O3.p.cells
     obtain⟨bad,hbad⟩:∃ bad,bad=shapeBad g s:=⟨_,rfl⟩
     rw [<-hbad] at hR2
     have hbad2:(((((((!false && s.d !=0) || (!g.a && s.a !=0)) || (!g.b && s.b !=0)) || (!g.c && s.c !=0)) || (!g.k && s.k !=0)) || (!g.body && decide (0<(s.body.length:Int)))) || (!g.other && decide (0<(s.els.length:Int))))=bad:=by rw [hbad];unfold shapeBad;rw [hgd,len_bool,len_bool]
     replace hbad2:=Lib.hid hbad2
     clear hbad
     go_upto_region 13 with (fail)
     go_cut [118] from 49 to 118 (fun v118 wc=>v118= .bool bad/\wc=wr)
     case first=>
      refine wp_region_list ?_
      refine clauseD (x:=s.d) (b:=false) (kf:=kf) (ks:=ks) (show 57<=136 by decide) rfl rfl rfl f0 z1 ?_
      intro a1 q1' d1 k1 v1
      have q1:a1.tmps.size=136:=q1'
      clear q1'
      refine clauseI 57 8 56 1 2 (b:=g.a) (acc:=_) (kf:=kf) (ks:=ks) (by omega) (by omega) (by omega) (by omega) v1 ((k1 5 (by omega)).trans rfl) ((k1 3 (by omega)).trans rfl) (by omega) (by omega) rfl rfl f1 z2 ?_
      intro a2 q2' d2' k2' v2
      have q2:=q2'.trans q1
      have d2:=d2'.trans d1
      have k2:∀ k,k<49\/67<=k->a2.tmps[k]?=_:=fun k hk=>(k2' k (by omega)).trans (k1 k (by omega))
      clear q2' d2' k2' q1 d1 k1 v1
      refine clauseI 67 18 66 2 3 (b:=g.b) (acc:=_) (kf:=kf) (ks:=ks) (by omega) (by omega) (by omega) (by omega) v2 ((k2 5 (by omega)).trans rfl) ((k2 3 (by omega)).trans rfl) (by omega) (by omega) rfl rfl f2 z3 ?_
      intro a3 q3' d3' k3' v3
      have q3:=q3'.trans q2
      have d3:=d3'.trans d2
      have k3:∀ k,k<49\/77<=k->a3.tmps[k]?=_:=fun k hk=>(k3' k (by omega)).trans (k2 k (by omega))
      clear q3' d3' k3' q2 d2 k2 v2
      refine clauseI 77 28 76 3 4 (b:=g.c) (acc:=_) (kf:=kf) (ks:=ks) (by omega) (by omega) (by omega) (by omega) v3 ((k3 5 (by omega)).trans rfl) ((k3 3 (by omega)).trans rfl) (by omega) (by omega) rfl rfl f3 z4 ?_
      intro a4 q4' d4' k4' v4
      have q4:=q4'.trans q3
      have d4:=d4'.trans d3
      have k4:∀ k,k<49\/87<=k->a4.tmps[k]?=_:=fun k hk=>(k4' k (by omega)).trans (k3 k (by omega))
      clear q4' d4' k4' q3 d3 k3 v3
      refine clauseI 87 38 86 4 5 (b:=g.k) (acc:=_) (kf:=kf) (ks:=ks) (by omega) (by omega) (by omega) (by omega) v4 ((k4 5 (by omega)).trans rfl) ((k4 3 (by omega)).trans rfl) (by omega) (by omega) rfl rfl f4 z5 ?_
      intro a5 q5' d5' k5' v5
      have q5:=q5'.trans q4
      have d5:=d5'.trans d4
      have k5:∀ k,k<49\/97<=k->a5.tmps[k]?=_:=fun k hk=>(k5' k (by omega)).trans (k4 k (by omega))
      clear q5' d5' k5' q4 d4 k4 v4
      refine clauseL 97 48 96 5 6 (b:=g.body) (acc:=_) (kf:=kf) (ks:=ks) rfl (by omega) (by omega) (by omega) v5 ((k5 5 (by omega)).trans rfl) ((k5 3 (by omega)).trans rfl) (by omega) (by omega) rfl rfl f5 z6 ?_
      intro a6 q6' d6' k6' v6
      have q6:=q6'.trans q5
      have d6:=d6'.trans d5
      have k6:∀ k,k<49\/108<=k->a6.tmps[k]?=_:=fun k hk=>(k6' k (by omega)).trans (k5 k (by omega))
      clear q6' d6' k6' q5 d5 k5 v5
      refine clauseL 108 59 107 6 7 (b:=g.other) (acc:=_) (kf:=kf) (ks:=ks) rfl (by omega) (by omega) (by omega) v6 ((k6 5 (by omega)).trans rfl) ((k6 3 (by omega)).trans rfl) (by omega) (by omega) rfl rfl f6 z7 ?_
      intro a7 q7' d7' k7' v7
      have q7:=q7'.trans q6
      have d7:=d7'.trans d6
      have k7:∀ k,k<49\/119<=k->a7.tmps[k]?=_:=fun k hk=>(k7' k (by omega)).trans (k6 k (by omega))
      clear q7' d7' k7' q6 d6 k6 v6
      rw [show _=bad from hbad2] at v7
      refine frame_lit (v:= .bool bad) (G:=fun a=>wpList _ _ _ [] a _) q7 d7 (fun k hk=>(k7 k (by omega)).trans rfl) v7 ?_
      clear q7 d7 k7 v7 hbad2
      intro u49 u50 u51 u52 u53 u54 u55 u56 u57 u58 u59 u60 u61 u62 u63 u64 u65 u66 u67 u68 u69 u70 u71 u72 u73 u74 u75 u76 u77 u78 u79 u80 u81 u82 u83 u84 u85 u86 u87 u88 u89 u90 u91 u92 u93 u94 u95 u96 u97 u98 u99 u100 u101 u102 u103 u104 u105 u106 u107 u108 u109 u110 u111 u112 u113 u114 u115 u116 u117
      go_wp2_with fail
      go_meet
      exact⟨rfl,rfl⟩
     case rest=>
     obtain⟨rfl,rfl⟩:=hcut
     clear hbad2
     cases bad
     case true=>
      have hRv:R=104:=by rw [hR2,if_pos rfl]
      clear hR2
      go_wp2_with fail
      exact bodyPost_ret (v:= .int .i64 104) (by simp [results,Tryz.results87,go_sem]) rfl ⟨by first|rw [hRv]|rfl,hb5⟩
     rw [if_neg (by simp)] at hR2
     simp only [Bool.false_and,Bool.false_eq_true,if_false] at hR2
     obtain⟨nk,hnk⟩:∃ nk,nk=Al.numOk p.q s:=⟨_,rfl⟩
     have HK:=fun w0=>ref_K w0 p.q p.n s (.slice A6 s.body.length c6) (.slice A7 s.els.length c7) hq
     unfold stmtV at HK
     rw [<-hnk] at HK hR2
     clear hnk
     cases nk
     ·have hRv:R=101:=by rw [hR2];rfl
      clear hR2
      go_wp2_with (first|(go_at_call 130;refine (HK _).mono ?_;rintro e w5 ⟨rfl,hb9⟩;have hb10:=hb5.trans (lower_below hb9 hb5.size)))
      exact bodyPost_ret (v:= .int .i64 101) (by simp [results,Tryz.results87,go_sem]) rfl ⟨by first|rw [hRv]|rfl,hb10⟩
     ·have hRv:R=0:=by rw [hR2];rfl
      clear hR2
      go_wp2_with (first|(go_at_call 130;refine (HK _).mono ?_;rintro e w5 ⟨rfl,hb9⟩;have hb10:=hb5.trans (lower_below hb9 hb5.size)))
      exact bodyPost_ret (v:= .int .i64 0) (by simp [results,Tryz.results87,go_sem]) rfl ⟨by first|rw [hRv]|rfl,hb10⟩
end Go.Proofs.YtkplfaionpplaaaGreatDoor
