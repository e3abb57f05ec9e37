/- Part 28: B64, B65. -/
import Derived.Test.YtkplfaionpplaaaGreatDoorK27
set_option maxRecDepth 100000
set_option maxHeartbeats 6400000
set_option linter.unusedVariables false
set_option linter.unusedSimpArgs false
namespace Go.Proofs.YtkplfaionpplaaaGreatDoor
open Go.RowKit Go.Proofs.YtkplfaionpplaaaGreatDoorW.PrintWords
mutual
theorem depthS_lt:∀ (s:Al.Stmt),Al.depthS s+1<=(Al.flatS s).length
 |⟨op,d,a,b,c,k,body,els⟩=>by
  have h1:=depthL_lt body
  have h2:=depthL_lt els
  simp only [Al.depthS,Al.flatS,List.length_cons,List.length_append]
  omega
theorem depthL_lt:∀ (l:List Al.Stmt),Al.depthL l+1<=(Al.flatL l).length
 |[]=>by simp [Al.depthL,Al.flatL]
 |s :: l=>by
  have h1:=depthS_lt s
  have h2:=depthL_lt l
  simp only [Al.depthL,Al.flatL,List.length_append]
  omega
end
theorem stmt_len (s:Al.Stmt)(x6 x7:Value):(stmtV s x6 x7).toList.length=8:=rfl
theorem cellsS_at {W0:World}:∀ {L:List Al.Stmt} {cs:List Value} {i:Nat} (h:CellsS W0 L cs) (hi:i<L.length),∃ A6 c6 A7 c7,(L[i]).body.length<=c6/\kStmt.C W0 A6 (L[i]).body.length (L[i]).body/\(L[i]).els.length<=c7/\kStmt.C W0 A7 (L[i]).els.length (L[i]).els/\
  ∀ j,j<8->cs[i * 8+j]?=(stmtV L[i] (.slice A6 (L[i]).body.length c6) (.slice A7 (L[i]).els.length c7)).toList[j]?
 |[],cs,i,h,hi=>by simp at hi
 |s :: l,cs,0,h,hi=>by
  obtain⟨A6,c6,A7,c7,cs',l6,g6,l7,g7,rfl,hr⟩:=h
  refine⟨A6,c6,A7,c7,l6,g6,l7,g7,fun j hj=>?_⟩
  rw [Nat.zero_mul,Nat.zero_add,List.getElem?_append_left (by rw [stmt_len];omega)]
  rfl
 |s :: l,cs,i+1,h,hi=>by
  obtain⟨A6,c6,A7,c7,cs',l6,g6,l7,g7,rfl,hr⟩:=h
  obtain⟨B6,e6,B7,e7,k6,m6,k7,m7,hc⟩:=cellsS_at hr (show i<l.length by simpa using hi)
  refine⟨B6,e6,B7,e7,k6,m6,k7,m7,fun j hj=>?_⟩
  have e:(i+1) * 8+j=8+(i * 8+j):=by omega
  rw [e,List.getElem?_append_right (by rw [stmt_len];omega),stmt_len,Nat.add_sub_cancel_left]
  exact hc j hj
theorem rowS_get {W0 w:World}{base:Nat}{a:Option Addr}{cap:Nat}{L:List Al.Stmt}(h:RowS W0 w base (.slice a L.length cap) L){i:Nat}(hi:i<L.length):
  ∃ g A6 c6 A7 c7,a=some ⟨g,0,none⟩/\(L[i]).body.length<=c6/\kStmt.C W0 A6 (L[i]).body.length (L[i]).body/\(L[i]).els.length<=c7/\kStmt.C W0 A7 (L[i]).els.length (L[i]).els/\
   w.cell? ⟨g,i * 8,none⟩=some (.int .i64 (L[i]).op)/\w.cell? ⟨g,i * 8+1,none⟩=some (.int .i64 (L[i]).d)/\w.cell? ⟨g,i * 8+2,none⟩=some (.int .i64 (L[i]).a)/\w.cell? ⟨g,i * 8+3,none⟩=some (.int .i64 (L[i]).b)/\
   w.cell? ⟨g,i * 8+4,none⟩=some (.int .i64 (L[i]).c)/\w.cell? ⟨g,i * 8+5,none⟩=some (.int .i64 (L[i]).k)/\w.cell? ⟨g,i * 8+6,none⟩=some (.slice A6 (L[i]).body.length c6)/\w.cell? ⟨g,i * 8+7,none⟩=some (.slice A7 (L[i]).els.length c7):=by
 obtain⟨cs,ho,hc⟩:=h
 obtain⟨A6,c6,A7,c7,l6,g6,l7,g7,hat⟩:=cellsS_at hc hi
 obtain⟨g,c,hv,hgb,hgl⟩:=ho.form (by omega)
 simp only [Value.slice.injEq] at hv
 have hl:cs.length=L.length * 8:=ho.1
 obtain⟨rfl, -,rfl⟩:=hv
 have f:∀ j,j<8->w.cell? ⟨g,i * 8+j,none⟩=(stmtV L[i] (.slice A6 (L[i]).body.length c6) (.slice A7 (L[i]).els.length c7)).toList[j]?:=fun j hj=>by rw [ho.cellAt _ (by omega),hat j hj]
 exact⟨g,A6,c6,A7,c7,rfl,l6,g6,l7,g7,f 0 (by omega),f 1 (by omega),f 2 (by omega),f 3 (by omega),f 4 (by omega),f 5 (by omega),f 6 (by omega),f 7 (by omega)⟩
theorem rowS_slice {W0 w:World}{base:Nat}{v:Value}{L:List Al.Stmt}(h:RowS W0 w base v L):∃ a c,v= .slice a L.length c:=by
 obtain⟨cs,ho,_⟩:=h
 exact own_slice ho
structure VB (w:World)(kp kr:Nat)(p:Al.Prog)(Va Ab:Option Addr)(vc cb:Nat):Prop where
 p:PBox w kp p Va Ab vc cb
 r:w.heap[kr]?=some (.cells #[.int .i64 0,.bool false,.int .i64 0] 36 (0,0))
theorem VB.below {w w':World}{kp kr:Nat}{p:Al.Prog}{Va Ab:Option Addr}{vc cb:Nat}(h:VB w kp kr p Va Ab vc cb)(hb:Below w.heap.size w w'):VB w' kp kr p Va Ab vc cb:=⟨below_blk hb h.p (blk_lt h.p),below_blk hb h.r (blk_lt h.r)⟩
theorem VB.facts {w:World}{kp kr:Nat}{p:Al.Prog}{Va Ab:Option Addr}{vc cb:Nat}(h:VB w kp kr p Va Ab vc cb):w.cell? ⟨kr,0,none⟩=some (.int .i64 0)/\w.cell? ⟨kr,1,none⟩=some (.bool false)/\w.cell? ⟨kr,2,none⟩=some (.int .i64 0)/\w.frozen? ⟨kr,0,none⟩=false/\w.frozen? ⟨kr,1,none⟩=false/\w.frozen? ⟨kr,2,none⟩=false:=
 ⟨(cell_blk h.r _).trans rfl,(cell_blk h.r _).trans rfl,(cell_blk h.r _).trans rfl,frozen_blk h.r _,frozen_blk h.r _,frozen_blk h.r _⟩
theorem ref_valid {w:World}{p:Al.Prog}{Va Ab:Option Addr}{vc cb:Nat}(hp:PLies w p Va Ab vc cb)(hfl:(Al.flatL p.body).length<=100)(hvl0:p.vars.length<=1000):
  Calls Tryz.prog 49 #[progV p Va Ab vc cb] w fun e w'=>e= .returned (faultV (Al.validF p))/\Below w.heap.size w w':=by
 obtain⟨R,hR⟩:∃ R,R=Al.validF p:=⟨_,rfl⟩
 rw [<-hR]
 obtain⟨W,hW⟩:∃ W,W=(w.alloc (.cells #[.int .i64 p.q,.int .i64 p.n,.slice Va p.vars.length vc,.slice Ab p.body.length cb] 27)).alloc (.cells #[.int .i64 0,.bool false,.int .i64 0] 36):=⟨_,rfl⟩
 have hb0:Below w.heap.size w W:=by rw [hW];exact alloc_two _ _ _
 obtain⟨kp,hkp⟩:∃ kp,kp=w.heap.size:=⟨_,rfl⟩
 have V0:VB W kp (kp+1) p Va Ab vc cb:=by rw [hW,hkp];exact⟨alloc_blk _ (heap_alloc_new w _),alloc_at _ _ _⟩
 have HRg:=ref_ring W p.q p.n
 have hdl:=depthL_lt p.body
 have HFl:=fun W0 hb=>flat_all (W0:=w) 101 p.body Ab cb (by omega) hp.b (by omega) W0 hb
 have HDp:=fun W0 hb=>depth_all (W0:=w) 101 (by omega) p.body Ab cb (by omega) hp.b (by omega) W0 hb
 have hdge:=depthL_ge p.body
 unfold Al.validF at hR
 obtain⟨p0,p1,p2,p3⟩:=V0.p.cells
 have HP:=Lib.hid hp
 have hR':=Lib.hid hR
 clear hp hR hdl
 go_enter Tryz.func49,Tryz.ntmps49
 unfold progV
 go_wp2_with fail
 rw [<-hW]
 simp only [<-hkp]
 have hkr:w.heap.size<=kp+1:=by rw [hkp];omega
 replace hkp:=Lib.hid hkp
 clear hW p0 p1 p2 p3
 cases hro:Al.ringOk p.q p.n with
 |false=>
  rw [hro] at HRg
  simp only [Bool.false_eq_true,if_false] at HRg
  have hRv:=show R=_ from hR'
  rw [hro] at hRv
  replace hRv:=Lib.hid (hRv.trans (if_pos rfl))
  go_wp2_with (first|(go_at_call 84;refine HRg.mono ?_;rintro e w1 ⟨rfl,hb1⟩;have V1:=V0.below hb1;have hbb:=hb0.trans (lower_below hb1 hb0.size);obtain⟨p0,p1,p2,p3⟩:=V1.p.cells)|(go_at_call 53;refine (bare_lit _ 101).mono ?_;rintro e w9 ⟨rfl,hb9⟩;have I9:=V1.below hb9;obtain⟨z0,z1,z2,y0,y1,y2⟩:=I9.facts;have hb10:=hbb.trans (lower_below hb9 hbb.size);have F9:=set3 I9.r (.int .i64 101) (.bool false) (.int .i64 0)))
  refine gen_world (Q:=fun W=>bodyPost _ _ _ _ _ W) _ (fun W=>W.heap[kp+1]?=some (.cells #[.int .i64 101,.bool false,.int .i64 0] 36 (0,0))/\Below w.heap.size w W) ⟨F9,below_set3 hb10 hkr⟩ ?_
  clear F9 hb10 hb9 I9 z0 z1 z2 y0 y1 y2
  rintro W9 ⟨F,HB⟩
  have c0:W9.cell? ⟨kp+1,0,none⟩=some (.int .i64 101):=(cell_blk F _).trans rfl
  have c1:W9.cell? ⟨kp+1,1,none⟩=some (.bool false):=(cell_blk F _).trans rfl
  have c2:W9.cell? ⟨kp+1,2,none⟩=some (.int .i64 0):=(cell_blk F _).trans rfl
  exact bodyPost_ret (v:= .agg #[.int .i64 101,.bool false,.int .i64 0]) (by simp [results,Tryz.results49,go_sem,c0,c1,c2]) rfl ⟨by rw [show R=_ from hRv];rfl,HB⟩
 |true=>
  rw [hro] at HRg
  simp only [if_true] at HRg
  have hR1:=show R=_ from hR'
  rw [hro,if_neg (by decide)] at hR1
  have hq:0<=p.q/\p.q<8388608:=by
   have h2:Al.isPrime p.q=true:=by (unfold Al.ringOk at hro;simp at hro;exact hro.1)
   have:=Al.prime_facts h2;omega
  clear hro
  by_cases cv:(12:Int)<p.vars.length
  ·have t1:decide ((12:Int)<(p.vars.length:Int))=true:=decide_eq_true cv
   rw [if_pos (by omega)] at hR1
   have hRv:=Lib.hid hR1
   clear hR1
   go_wp2_with (first|(go_at_call 84;refine HRg.mono ?_;rintro e w1 ⟨rfl,hb1⟩;have V1:=V0.below hb1;have hbb:=hb0.trans (lower_below hb1 hb0.size);obtain⟨p0,p1,p2,p3⟩:=V1.p.cells)|(go_at_call 53;refine (bare_lit _ 103).mono ?_;rintro e w9 ⟨rfl,hb9⟩;have I9:=V1.below hb9;obtain⟨z0,z1,z2,y0,y1,y2⟩:=I9.facts;have hb10:=hbb.trans (lower_below hb9 hbb.size);have F9:=set3 I9.r (.int .i64 103) (.bool false) (.int .i64 0)))
   refine gen_world (Q:=fun W=>bodyPost _ _ _ _ _ W) _ (fun W=>W.heap[kp+1]?=some (.cells #[.int .i64 103,.bool false,.int .i64 0] 36 (0,0))/\Below w.heap.size w W) ⟨F9,below_set3 hb10 hkr⟩ ?_
   clear F9 hb10 hb9 I9 z0 z1 z2 y0 y1 y2
   rintro W9 ⟨F,HB⟩
   have c0:W9.cell? ⟨kp+1,0,none⟩=some (.int .i64 103):=(cell_blk F _).trans rfl
   have c1:W9.cell? ⟨kp+1,1,none⟩=some (.bool false):=(cell_blk F _).trans rfl
   have c2:W9.cell? ⟨kp+1,2,none⟩=some (.int .i64 0):=(cell_blk F _).trans rfl
   exact bodyPost_ret (v:= .agg #[.int .i64 103,.bool false,.int .i64 0]) (by simp [results,Tryz.results49,go_sem,c0,c1,c2]) rfl ⟨by rw [show R=_ from hRv];rfl,HB⟩
  have t1:decide ((12:Int)<(p.vars.length:Int))=false:=decide_eq_false cv
  rw [if_neg (by omega)] at hR1
  have hvl:p.vars.length<=12:=by omega
  obtain⟨FK,hFK⟩:∃ FK,FK=Al.firstK p.vars 0:=⟨_,rfl⟩
  rw [<-hFK] at hR1
  replace hR1:=Lib.hid hR1
  replace hFK:=Lib.hid hFK
  go_wp2_with (first|(go_at_call 84;refine HRg.mono ?_;rintro e w1 ⟨rfl,hb1⟩;have V1:=V0.below hb1;have hbb:=hb0.trans (lower_below hb1 hb0.size);obtain⟨p0,p1,p2,p3⟩:=V1.p.cells))
  have HH:Hid (VB w1 kp (kp+1) p Va Ab vc cb/\Below w.heap.size w w1):=Lib.hid ⟨V1,hbb⟩
  clear V1 hbb hb1 V0 hb0 HRg p0 p1 p2 p3
  go_loopg [4] (p.vars.length+1) (fun gk v4 w'=>∃ i:Nat,v4= .int .i64 i/\i+gk=p.vars.length+1/\i<=p.vars.length/\Hid (FK=Al.firstK (p.vars.drop i) i)/\Hid (VB w' kp (kp+1) p Va Ab vc cb/\Below w.heap.size w w'))
  case atStart=>exact⟨0,rfl,by omega,by omega,Lib.hid (show FK=_ from hFK),HH⟩
  case round=>
   obtain⟨i,rfl,hg,hi2,HF,HW⟩:=hrel
   have hF:=show FK=Al.firstK (p.vars.drop i) i from HF
   obtain⟨V1,hbb⟩:=show VB wr kp (kp+1) p Va Ab vc cb/\Below w.heap.size w wr from HW
   clear HH HF HW
   obtain⟨p0,p1,p2,p3⟩:=V1.p.cells
   by_cases hil:i<p.vars.length
   ·obtain⟨k1,rfl⟩:∃ k1,gk=k1+1:=⟨gk - 1,by omega⟩
    obtain⟨ad,hVa,d0,_⟩:=at_T901 (show PLies w p Va Ab vc cb from HP).v (i:Int) (by omega) (by omega)
    replace d0:=cell_since hbb d0
    rw [hVa] at p2
    replace hVa:=Lib.hid hVa
    simp only [Int.toNat_natCast] at d0
    rw [List.drop_eq_getElem_cons hil] at hF
    unfold Al.firstK at hF
    rw [rd_var p.vars i hil] at d0
    obtain⟨x,hx⟩:∃ x,x=(p.vars[i]).kind:=⟨_,rfl⟩
    rw [<-hx] at d0 hF
    clear hx
    have HKd:=ref_kind wr x
    have r0:(0:Int)<=(i:Int):=by omega
    have r1:(i:Int)<(p.vars.length:Int):=by omega
    have r2:decide ((i:Int)<(p.vars.length:Int))=true:=decide_eq_true r1
    by_cases hk:x=1\/x=2\/x=3
    ·rw [if_pos hk] at hF
     rw [decide_eq_true hk] at HKd
     have HF:Hid (FK=Al.firstK (p.vars.drop (i+1)) ((i+1:Nat):Int)):=Lib.hid (by rw [Int.natCast_add];exact hF)
     have HH2:Hid (VB wr kp (kp+1) p Va Ab vc cb/\Below w.heap.size w wr):=Lib.hid ⟨V1,hbb⟩
     clear hF V1 hbb hk
     go_wp2_with (first|(go_at_call 85;refine HKd.mono ?_;rintro e w2 ⟨rfl,rfl⟩))
     go_roundg k1
     case measure=>omega
     case rel=>exact⟨i+1,by simp,by omega,by omega,HF,HH2⟩
    ·rw [if_neg hk] at hF
     rw [decide_eq_false hk] at HKd
     have hRR:=show R=_ from hR1
     rw [if_pos (by rw [hF];show (101:Int)≠0;decide),hF] at hRR
     have hRv:=Lib.hid hRR
     have HPl:=fun w0=>placed_lit w0 101 (i:Int) (by decide)
     clear hRR hF hk
     go_wp2_with (first|(go_at_call 85;refine HKd.mono ?_;rintro e w2 ⟨rfl,rfl⟩)|(go_at_call 51;refine (HPl _).mono ?_;rintro e w9 ⟨rfl,hb9⟩;have I9:=V1.below hb9;obtain⟨z0,z1,z2,y0,y1,y2⟩:=I9.facts;have hb10:=hbb.trans (lower_below hb9 hbb.size);have F9:=set3 I9.r (.int .i64 101) (.bool true) (.int .i64 i)))
     refine gen_world (Q:=fun W=>bodyPost _ _ _ _ _ W) _ (fun W=>W.heap[kp+1]?=some (.cells #[.int .i64 101,.bool true,.int .i64 i] 36 (0,0))/\Below w.heap.size w W) ⟨F9,below_set3 hb10 hkr⟩ ?_
     clear F9 hb10 hb9 I9 z0 z1 z2 y0 y1 y2
     rintro W9 ⟨F,HB⟩
     have c0:W9.cell? ⟨kp+1,0,none⟩=some (.int .i64 101):=(cell_blk F _).trans rfl
     have c1:W9.cell? ⟨kp+1,1,none⟩=some (.bool true):=(cell_blk F _).trans rfl
     have c2:W9.cell? ⟨kp+1,2,none⟩=some (.int .i64 i):=(cell_blk F _).trans rfl
     exact bodyPost_ret (v:= .agg #[.int .i64 101,.bool true,.int .i64 i]) (by simp [results,Tryz.results49,go_sem,c0,c1,c2]) rfl ⟨by rw [show R=_ from hRv];rfl,HB⟩
   ·have hie:i=p.vars.length:=by omega
    have t2:decide ((i:Int)<(p.vars.length:Int))=false:=by simp;omega
    rw [hie,List.drop_length] at hF
    have hRR:=show R=_ from hR1
    rw [if_neg (by rw [hF];simp [Al.firstK,Al.Fault.fine])] at hRR
    clear hF
    obtain⟨FL,hFL⟩:∃ FL,FL=Al.flatL p.body:=⟨_,rfl⟩
    have hfl2:FL.length<=100:=by rw [hFL];exact hfl
    rw [<-hFL] at hRR HFl
    obtain⟨dp,hdp⟩:∃ dp,dp=Al.depthL p.body:=⟨_,rfl⟩
    rw [<-hdp] at hRR HDp hdge
    clear hdp
    have hFLh:=Lib.hid hFL
    clear hFL hfl
    have tl:decide ((100:Int)<(FL.length:Int))=false:=decide_eq_false (by omega)
    by_cases cd:(6:Int)<dp
    ·rw [if_pos (.inr (by omega))] at hRR
     have hRv:=Lib.hid hRR
     have td:decide ((6:Int)<dp)=true:=decide_eq_true cd
     clear hRR
     go_wp2_with (first|(go_at_call 20;refine (HFl _ hbb).mono ?_;rintro e w3 ⟨vf,rfl,hrow,hb2⟩;obtain⟨fa,fc,rfl⟩:=rowS_slice hrow;have V3:=V1.below hb2;have hb3:=hbb.trans (lower_below hb2 hbb.size);have q3:=V3.p.cells.2.2.2)|(go_at_call 86;refine (HDp _ hb3).mono ?_;rintro e w5 ⟨rfl,hb4⟩;have V5:=V3.below hb4;have hb5:=hb3.trans (lower_below hb4 hb3.size);have hrow5:=hrow.below hb4)|(go_at_call 53;refine (bare_lit _ 103).mono ?_;rintro e w9 ⟨rfl,hb9⟩;have I9:=V5.below hb9;obtain⟨z0,z1,z2,y0,y1,y2⟩:=I9.facts;have hb10:=hb5.trans (lower_below hb9 hb5.size);have F9:=set3 I9.r (.int .i64 103) (.bool false) (.int .i64 0)))
     refine gen_world (Q:=fun W=>bodyPost _ _ _ _ _ W) _ (fun W=>W.heap[kp+1]?=some (.cells #[.int .i64 103,.bool false,.int .i64 0] 36 (0,0))/\Below w.heap.size w W) ⟨F9,below_set3 hb10 hkr⟩ ?_
     clear F9 hb10 hb9 I9 z0 z1 z2 y0 y1 y2
     rintro W9 ⟨F,HB⟩
     have c0:W9.cell? ⟨kp+1,0,none⟩=some (.int .i64 103):=(cell_blk F _).trans rfl
     have c1:W9.cell? ⟨kp+1,1,none⟩=some (.bool false):=(cell_blk F _).trans rfl
     have c2:W9.cell? ⟨kp+1,2,none⟩=some (.int .i64 0):=(cell_blk F _).trans rfl
     exact bodyPost_ret (v:= .agg #[.int .i64 103,.bool false,.int .i64 0]) (by simp [results,Tryz.results49,go_sem,c0,c1,c2]) rfl ⟨by rw [show R=_ from hRv];rfl,HB⟩
    have td:decide ((6:Int)<dp)=false:=decide_eq_false cd
    rw [if_neg (by omega)] at hRR
    obtain⟨FF,hFF⟩:∃ FF,FF=Al.firstF (Al.oneF p.q p.vars) FL 0:=⟨_,rfl⟩
    rw [<-hFF] at hRR
    have hRv:=Lib.hid hRR
    replace hFF:=Lib.hid hFF
    clear hRR
    go_wp2_with (first|(go_at_call 20;refine (HFl _ hbb).mono ?_;rintro e w3 ⟨vf,rfl,hrow,hb2⟩;obtain⟨fa,fc,rfl⟩:=rowS_slice hrow;have V3:=V1.below hb2;have hb3:=hbb.trans (lower_below hb2 hbb.size);have q3:=V3.p.cells.2.2.2)|(go_at_call 86;refine (HDp _ hb3).mono ?_;rintro e w5 ⟨rfl,hb4⟩;have V5:=V3.below hb4;have hb5:=hb3.trans (lower_below hb4 hb3.size);have hrow5:=hrow.below hb4))
    have HH:Hid (VB w5 kp (kp+1) p Va Ab vc cb/\Below w.heap.size w w5/\RowS w w5 wr.heap.size (.slice fa FL.length fc) FL):=Lib.hid ⟨V5,hb5,hrow5⟩
    obtain⟨rb,hrb⟩:∃ rb,rb=wr.heap.size:=⟨_,rfl⟩
    rw [<-hrb] at HH
    clear hrb V5 hb5 hrow5 V1 hbb p0 p1 p2 p3 q3 HDp HFl V3 hb3 hrow hb2 hb4
    go_loopg [6,7] (FL.length+1) (fun gk v6 v7 w'=>∃ i:Nat,v6= .int .i64 i/\i+gk=FL.length+1/\i<=FL.length/\Hid (FF=Al.firstF (Al.oneF p.q p.vars) (FL.drop i) i)/\Hid (VB w' kp (kp+1) p Va Ab vc cb/\Below w.heap.size w w'/\RowS w w' rb (.slice fa FL.length fc) FL))
    case atStart=>exact⟨0,rfl,by omega,by omega,Lib.hid (show FF=_ from hFF),HH⟩
    case round=>
     obtain⟨i,rfl,hg,hi2,HF,HW⟩:=hrel
     have hF:=show FF=Al.firstF (Al.oneF p.q p.vars) (FL.drop i) i from HF
     obtain⟨V1,hbb,hrow⟩:=show VB wr kp (kp+1) p Va Ab vc cb/\Below w.heap.size w wr/\RowS w wr rb (.slice fa FL.length fc) FL from HW
     clear HH HF HW
     obtain⟨p0,p1,p2,p3⟩:=V1.p.cells
     by_cases hil:i<FL.length
     ·obtain⟨k1,rfl⟩:∃ k1,gk=k1+1:=⟨gk - 1,by omega⟩
      obtain⟨gf,A6,c6,A7,c7,hfa, -, -, -, -,d0,d1,d2,d3,d4,d5,d6,d7⟩:=rowS_get hrow hil
      rw [List.drop_eq_getElem_cons hil] at hF
      unfold Al.firstF at hF
      obtain⟨s,hs⟩:∃ s,s=FL[i]:=⟨_,rfl⟩
      rw [<-hs] at d0 d1 d2 d3 d4 d5 d6 d7 hF
      clear hs
      have HOn:=ref_one (w:=wr.drew) ((show PLies w p Va Ab vc cb from HP).below (below_drew' hbb)) hvl s (A6:=A6) (A7:=A7) (c6:=c6) (c7:=c7) hq
      unfold progV stmtV at HOn
      obtain⟨vo,hvo⟩:∃ vo,vo=Al.oneF p.q p.vars s:=⟨_,rfl⟩
      rw [<-hvo] at HOn hF
      clear hvo
      subst hfa
      have r0:(0:Int)<=(i:Int):=by omega
      have r1:(i:Int)<(FL.length:Int):=by omega
      have r2:decide ((i:Int)<(FL.length:Int))=true:=decide_eq_true r1
      have hbd:=below_drew' hbb
      by_cases hz:vo=0
      ·subst hz
       simp only [ne_eq,not_true,if_false] at hF
       have HF:Hid (FF=Al.firstF (Al.oneF p.q p.vars) (FL.drop (i+1)) ((i+1:Nat):Int)):=Lib.hid (by rw [Int.natCast_add];exact hF)
       clear hF
       have z0:((0:Int) !=0)=false:=by decide
       have HRw:=Lib.hid hrow
       clear hrow
       go_wp2_with fail
       go_still_tail 5,(by kernel_rfl)
       go_wp2_with (first|(go_at_call 87;refine HOn.mono ?_;rintro e w2 ⟨rfl,hb2⟩;replace hb2:=undrew hb2))
       have HH2:Hid (VB w2 kp (kp+1) p Va Ab vc cb/\Below w.heap.size w w2/\RowS w w2 rb (.slice (some ⟨gf,0,none⟩) FL.length fc) FL):=Lib.hid ⟨V1.below hb2,hbb.trans (lower_below hb2 hbb.size),(show RowS w wr rb (.slice (some ⟨gf,0,none⟩) FL.length fc) FL from HRw).below hb2⟩
       clear hb2 V1 hbb d0 d1 d2 d3 d4 d5 d6 d7 HOn hbd HRw
       go_roundg k1
       case measure=>omega
       case rel=>exact⟨i+1,by simp,by omega,by omega,HF,HH2⟩
      ·rw [if_pos hz] at hF
       have hRR:=show R=_ from hRv
       rw [hF] at hRR
       have hRv2:=Lib.hid hRR
       have z0:(vo !=0)=true:=by simp [hz]
       have z0':(vo == 0)=false:=by simp [hz]
       clear hRR hF hrow
       have HPl:=fun w0=>placed_lit w0 vo (i:Int) hz
       clear hz
       go_wp2_with fail
       go_still_tail 5,(by kernel_rfl)
       go_wp2_with (first|(go_at_call 87;refine HOn.mono ?_;rintro e w2 ⟨rfl,hb2⟩;replace hb2:=undrew hb2;have V2:=V1.below hb2;have hb3:=hbb.trans (lower_below hb2 hbb.size))|(go_at_call 51;refine (HPl _).mono ?_;rintro e w9 ⟨rfl,hb9⟩;have I9:=V2.below hb9;obtain⟨z0,z1,z2,y0,y1,y2⟩:=I9.facts;have hb10:=hb3.trans (lower_below hb9 hb3.size);have F9:=set3 I9.r (.int .i64 vo) (.bool true) (.int .i64 i)))
       refine gen_world (Q:=fun W=>bodyPost _ _ _ _ _ W) _ (fun W=>W.heap[kp+1]?=some (.cells #[.int .i64 vo,.bool true,.int .i64 i] 36 (0,0))/\Below w.heap.size w W) ⟨F9,below_set3 hb10 hkr⟩ ?_
       clear F9 hb10 hb9 I9 z0 z1 z2 y0 y1 y2
       rintro W9 ⟨F,HB⟩
       have c0:W9.cell? ⟨kp+1,0,none⟩=some (.int .i64 vo):=(cell_blk F _).trans rfl
       have c1:W9.cell? ⟨kp+1,1,none⟩=some (.bool true):=(cell_blk F _).trans rfl
       have c2:W9.cell? ⟨kp+1,2,none⟩=some (.int .i64 i):=(cell_blk F _).trans rfl
       exact bodyPost_ret (v:= .agg #[.int .i64 vo,.bool true,.int .i64 i]) (by simp [results,Tryz.results49,go_sem,c0,c1,c2]) rfl ⟨by rw [show R=_ from hRv2];rfl,HB⟩
     ·have hie:i=FL.length:=by omega
      have t9:decide ((i:Int)<(FL.length:Int))=false:=by simp;omega
      rw [hie,List.drop_length] at hF
      have hRR:=show R=_ from hRv
      rw [hF] at hRR
      have hRv2:=Lib.hid hRR
      clear hRR hF hrow
      go_wp2_with (first|(go_at_call 52;refine (none_lit _).mono ?_;rintro e w9 ⟨rfl,hb9⟩;have I9:=V1.below hb9;obtain⟨z0,z1,z2,y0,y1,y2⟩:=I9.facts;have hb10:=hbb.trans (lower_below hb9 hbb.size);have F9:=set3 I9.r (.int .i64 0) (.bool false) (.int .i64 0)))
      refine gen_world (Q:=fun W=>bodyPost _ _ _ _ _ W) _ (fun W=>W.heap[kp+1]?=some (.cells #[.int .i64 0,.bool false,.int .i64 0] 36 (0,0))/\Below w.heap.size w W) ⟨F9,below_set3 hb10 hkr⟩ ?_
      clear F9 hb10 hb9 I9 z0 z1 z2 y0 y1 y2
      rintro W9 ⟨F,HB⟩
      have c0:W9.cell? ⟨kp+1,0,none⟩=some (.int .i64 0):=(cell_blk F _).trans rfl
      have c1:W9.cell? ⟨kp+1,1,none⟩=some (.bool false):=(cell_blk F _).trans rfl
      have c2:W9.cell? ⟨kp+1,2,none⟩=some (.int .i64 0):=(cell_blk F _).trans rfl
      exact bodyPost_ret (v:= .agg #[.int .i64 0,.bool false,.int .i64 0]) (by simp [results,Tryz.results49,go_sem,c0,c1,c2]) rfl ⟨by rw [show R=_ from hRv2];rfl,HB⟩
def breaksI (vars:List Al.Var):List Al.Stmt->Int->List Int
 |[],_=>[]
 |s :: l,i=>if Al.breaksB vars s=true then i :: breaksI vars l (i+1) else breaksI vars l (i+1)
theorem breaksI_snoc (vars:List Al.Var):∀ (l:List Al.Stmt) (s:Al.Stmt) (i:Int),breaksI vars (l++[s]) i=breaksI vars l i++(if Al.breaksB vars s=true then [i+l.length] else [])
 |[],s,i=>by simp only [List.nil_append,breaksI,List.length_nil];split<;> simp
 |x :: l,s,i=>by
  simp only [List.cons_append,breaksI,breaksI_snoc vars l s (i+1),List.length_cons]
  have e:i+1+(l.length:Int)=i+((l.length+1:Nat):Int):=by omega
  rw [e]
  split<;> simp
theorem breaksI_len (vars:List Al.Var):∀ (l:List Al.Stmt) (i:Int),(breaksI vars l i).length<=l.length
 |[],i=>by simp [breaksI]
 |x :: l,i=>by simp only [breaksI,List.length_cons];have:=breaksI_len vars l (i+1);split<;> (try simp only [List.length_cons])<;> omega
theorem firstF_breaks (vars:List Al.Var):∀ (l:List Al.Stmt) (i:Int),Al.firstF (fun s=>if Al.breaksB vars s then 108 else 0) l i=(match breaksI vars l i with|[]=>Al.Fault.fine|j :: _=>Al.Fault.at_ 108 j)
 |[],i=>rfl
 |s :: l,i=>by
  unfold Al.firstF breaksI
  cases Al.breaksB vars s with
  |true=>rfl
  |false=>simp only [Bool.false_eq_true,if_false,ne_eq,not_true];exact firstF_breaks vars l (i+1)
theorem valid_parts {p:Al.Prog}(h:(Al.validF p).code=0):(∀ s∈Al.flatL p.body,Al.oneF p.q p.vars s=0)/\p.vars.length<=12:=by
 unfold Al.validF at h
 by_cases h1:(!Al.ringOk p.q p.n)=true
 ·rw [if_pos h1] at h;simp [Al.Fault.bare] at h
 rw [if_neg h1] at h
 by_cases h2:p.vars.length > 12
 ·rw [if_pos h2] at h;simp [Al.Fault.bare] at h
 rw [if_neg h2] at h
 by_cases h3:(Al.firstK p.vars 0).code≠0
 ·rw [if_pos h3] at h;exact absurd h h3
 rw [if_neg h3] at h
 by_cases h4:(Al.flatL p.body).length > 100\/Al.depthL p.body > 6
 ·rw [if_pos h4] at h;simp [Al.Fault.bare] at h
 rw [if_neg h4] at h
 exact⟨Al.firstF_fine _ _ h,by omega⟩
theorem field_code (w0:World)(c q:Int)(b:Bool):Sem.run Tryz.prog (Instr.field 36 (.agg #[.int .i64 c,.bool b,.int .i64 q]) 0) w0=Result.ok (.int .i64 c) w0:=by kernel_rfl
theorem keep_box {w w':World}{base:Nat}{e t:TypeId}{size:Nat}{v:Value}{n:Nat}{xs:List Value}{k:Nat}{c:Array Value}(h:w.ownsRow base e size v n xs)(hk:w.heap[k]?=some (.cells c t (0,0)))(ht:t≠e)(hg:w'=w\/w.grownBy w' v.ownBlock):w'.heap[k]?=some (.cells c t (0,0)):=by
 rcases hg with rfl|hg
 ·exact hk
 ·exact grow_blk hg hk (own_ne_blk h hk ht)
theorem keep_rowS {W0 w w':World}{base b2:Nat}{v u:Value}{n:Nat}{xs:List Value}{L:List Al.Stmt}(h:w.ownsRow base 3 1 v n xs)(hr:RowS W0 w b2 u L)(hg:w'=w\/w.grownBy w' v.ownBlock):RowS W0 w' b2 u L:=by
 obtain⟨cs,ho,hc⟩:=hr
 refine⟨cs,own_of ho fun k hk=>?_,hc⟩
 obtain⟨c,hcc⟩:=own_type ho hk
 rw [keep_box h hcc (by decide) hg,hcc]
theorem valid_lit {w:World}{p:Al.Prog}{Va Ab:Option Addr}{vc cb:Nat}(hp:PLies w p Va Ab vc cb)(hfl:(Al.flatL p.body).length<=100)(hvl0:p.vars.length<=1000):
 Calls Tryz.prog 49 #[.agg #[.int .i64 p.q,.int .i64 p.n,.slice Va p.vars.length vc,.slice Ab p.body.length cb]] w fun e w'=>e= .returned (.agg #[.int .i64 (Al.validF p).code,.bool (Al.validF p).placed,.int .i64 (Al.validF p).pos])/\Below w.heap.size w w':=ref_valid hp hfl hvl0
theorem ref_all {w:World}{p:Al.Prog}{Va Ab:Option Addr}{vc cb:Nat}(hp:PLies w p Va Ab vc cb)(hfl:(Al.flatL p.body).length<=100)(hv0:(Al.validF p).code=0):
  Calls Tryz.prog 50 #[.agg #[.int .i64 p.q,.int .i64 p.n,.slice Va p.vars.length vc,.slice Ab p.body.length cb]] w fun e w'=>∃ v,e= .returned v/\w'.ownsRow w.heap.size 3 1 v (breaksI p.vars (Al.flatL p.body) 0).length (intsV (breaksI p.vars (Al.flatL p.body) 0))/\Below w.heap.size w w':=by
 obtain⟨j0,hj0,jz0,jz1,jz2⟩:=info_parts Tryz.infoInt
 obtain⟨hone,hvl⟩:=valid_parts hv0
 obtain⟨W,hW⟩:∃ W,W=w.alloc (.cells #[.int .i64 p.q,.int .i64 p.n,.slice Va p.vars.length vc,.slice Ab p.body.length cb] 27):=⟨_,rfl⟩
 have hb0:Below w.heap.size w W:=by rw [hW];exact (Below.refl _ _).alloc (Nat.le_refl _) _
 obtain⟨kp,hkp⟩:∃ kp,kp=w.heap.size:=⟨_,rfl⟩
 have P0:PBox W kp p Va Ab vc cb:=by rw [hW,hkp];exact heap_alloc_new w _
 have HV:=valid_lit (hp.below hb0) hfl (by omega)
 have hdl:=depthL_lt p.body
 have HFl:=fun W0 hb=>flat_all (W0:=w) 101 p.body Ab cb (by omega) hp.b (by omega) W0 hb
 obtain⟨FL,hFL⟩:∃ FL,FL=Al.flatL p.body:=⟨_,rfl⟩
 have hfl2:FL.length<=100:=by rw [hFL];exact hfl
 rw [<-hFL] at HFl hone ⊢
 obtain⟨K,hK⟩:∃ K,K=breaksI p.vars FL 0:=⟨_,rfl⟩
 rw [<-hK]
 replace hK:=Lib.hid hK
 have hFLh:=Lib.hid hFL
 have HP:=Lib.hid hp
 have HOne:=Lib.hid hone
 rw [hv0] at HV
 obtain⟨vp,hvp⟩:∃ vp,vp=(Al.validF p).placed:=⟨_,rfl⟩
 obtain⟨vq,hvq⟩:∃ vq,vq=(Al.validF p).pos:=⟨_,rfl⟩
 rw [<-hvp,<-hvq] at HV
 have z0:((0:Int) !=0)=false:=by decide
 have hfd:=fun w0=>field_code w0 0 vq vp
 obtain⟨p0,p1,p2,p3⟩:=P0.cells
 clear hdl hFL hp hone hv0 hvp hvq hfl
 go_enter Tryz.func50,Tryz.ntmps50
 go_wp2_with fail
 rw [<-hW]
 simp only [<-hkp]
 replace hkp:=Lib.hid hkp
 clear hW
 go_wp2_with (first
  |(go_at_call 49;refine HV.mono ?_;rintro e w1 ⟨rfl,hb1⟩;have P1:PBox w1 kp p Va Ab vc cb:=below_blk hb1 P0 (blk_lt P0);have hb2:=hb0.trans (lower_below hb1 hb0.size);obtain⟨r0',r1',r2',r3'⟩:=P1.cells;clear p0 p1 p2 p3)
  |(go_at_call 20;refine (HFl _ hb2).mono ?_;rintro e w3 ⟨vf,rfl,hrow,hb3⟩;obtain⟨fa,fc,rfl⟩:=rowS_slice hrow;have P3:PBox w3 kp p Va Ab vc cb:=below_blk hb3 P1 (blk_lt P1);have hb4:=hb2.trans (lower_below hb3 hb2.size)))
 obtain⟨rb,hrb⟩:∃ rb,rb=w1.heap.size:=⟨_,rfl⟩
 have HH:Hid (PBox w3 kp p Va Ab vc cb/\Below w.heap.size w w3/\RowS w w3 rb (.slice fa FL.length fc) FL/\w.heap.size<=rb/\rb<=w3.heap.size):=Lib.hid ⟨P3,hb4,by rw [hrb];exact hrow,by rw [hrb];exact hb2.size,by rw [hrb];exact hb3.size⟩
 clear hrow hb3 hb4 P3 P1 hb1 hb2 r0' r1' r2' r3' HFl HV hb0 P0 hrb
 obtain⟨B,hB⟩:∃ B,B=w3.heap.size:=⟨_,rfl⟩
 have HH2:Hid (PBox w3 kp p Va Ab vc cb/\Below w.heap.size w w3/\RowS w w3 rb (.slice fa FL.length fc) FL/\w.heap.size<=B/\B<=w3.heap.size/\Below B w3 w3):=by
  obtain⟨h1,h2,h3,h4,h5⟩:=show _/\_ from HH
  exact Lib.hid ⟨h1,h2,h3,by omega,by omega,Below.refl _ _⟩
 clear HH
 replace hB:=Lib.hid hB
 go_loopg [4,5] (FL.length+1) (fun gk v4 v5 w'=>∃ i:Nat,v5= .int .i64 i/\i+gk=FL.length+1/\i<=FL.length/\Hid (w'.ownsRow B 3 1 v4 (breaksI p.vars (FL.take i) 0).length (intsV (breaksI p.vars (FL.take i) 0)))/\Hid (PBox w' kp p Va Ab vc cb/\Below w.heap.size w w'/\RowS w w' rb (.slice fa FL.length fc) FL/\w.heap.size<=B/\B<=w'.heap.size/\Below B w3 w'))
 case atStart=>exact⟨0,rfl,by omega,by omega,Lib.hid (World.ownsRow_nil _ _ _ _),HH2⟩
 case round=>
  obtain⟨i,rfl,hg,hi2,HO,HW⟩:=hrel
  have hown:=show wr.ownsRow B 3 1 u4 (breaksI p.vars (FL.take i) 0).length (intsV (breaksI p.vars (FL.take i) 0)) from HO
  obtain⟨P1,hbb,hrow,hB1,hB2,hB3⟩:=show PBox wr kp p Va Ab vc cb/\Below w.heap.size w wr/\RowS w wr rb (.slice fa FL.length fc) FL/\w.heap.size<=B/\B<=wr.heap.size/\Below B w3 wr from HW
  clear HH2 HO HW
  obtain⟨p0,p1,p2,p3⟩:=P1.cells
  by_cases hil:i<FL.length
  ·obtain⟨k1,rfl⟩:∃ k1,gk=k1+1:=⟨gk - 1,by omega⟩
   obtain⟨gf,A6,c6,A7,c7,hfa, -, -, -, -,d0,d1,d2,d3,d4,d5,d6,d7⟩:=rowS_get hrow hil
   obtain⟨s,hs⟩:∃ s,s=FL[i]:=⟨_,rfl⟩
   have hnx:breaksI p.vars (FL.take (i+1)) 0=breaksI p.vars (FL.take i) 0++(if Al.breaksB p.vars s=true then [(i:Int)] else []):=by
    rw [List.take_succ_eq_append_getElem hil,breaksI_snoc,List.length_take,Nat.min_eq_left (by omega),hs];simp
   have ho:=(show ∀ s∈FL,Al.oneF p.q p.vars s=0 from HOne) s (by rw [hs];exact List.getElem_mem hil)
   rw [<-hs] at d0 d1 d2 d3 d4 d5 d6 d7
   clear hs
   obtain⟨g,hg1,hg2, -, -⟩:=Al.oneF_parts ho
   have HBr:=ref_breaks (w:=wr.drew) ((show PLies w p Va Ab vc cb from HP).below (below_drew' hbb)) s (.slice A6 s.body.length c6) (.slice A7 s.els.length c7) hg1 (fun v hv=>hg2 v (List.mem_append_left _ hv)) (fun hd=>hg2 _ (by rw [if_pos hd];simp))
   unfold progV stmtV at HBr
   clear ho hg1 hg2
   obtain⟨bs,hbs⟩:∃ bs,bs=Al.breaksB p.vars s:=⟨_,rfl⟩
   rw [<-hbs] at HBr hnx
   clear hbs
   subst hfa
   have hkl:(breaksI p.vars (FL.take i) 0).length<=100:=by have:=breaksI_len p.vars (FL.take i) 0;have:=List.length_take_le i FL;omega
   have r0:(0:Int)<=(i:Int):=by omega
   have r1:(i:Int)<(FL.length:Int):=by omega
   have r2:decide ((i:Int)<(FL.length:Int))=true:=decide_eq_true r1
   have HRw:=Lib.hid hrow
   have HOw:=Lib.hid hown
   clear hrow hown
   cases bs
   ·rw [if_neg (by decide),List.append_nil] at hnx
    go_wp2_with fail
    go_still_tail 5,(by kernel_rfl)
    go_wp2_with (first|(go_at_call 88;refine HBr.mono ?_;rintro e w2 ⟨rfl,hb2⟩;replace hb2:=undrew hb2))
    have hown:=show wr.ownsRow B 3 1 u4 (breaksI p.vars (FL.take i) 0).length (intsV (breaksI p.vars (FL.take i) 0)) from HOw
    have HN:Hid (w2.ownsRow B 3 1 u4 (breaksI p.vars (FL.take (i+1)) 0).length (intsV (breaksI p.vars (FL.take (i+1)) 0))):=by rw [hnx];exact Lib.hid (own_of hown fun k hk=>hb2.block k (hown.lt k hk).2)
    have HN2:Hid (PBox w2 kp p Va Ab vc cb/\Below w.heap.size w w2/\RowS w w2 rb (.slice (some ⟨gf,0,none⟩) FL.length fc) FL/\w.heap.size<=B/\B<=w2.heap.size/\Below B w3 w2):=Lib.hid ⟨below_blk hb2 P1 (blk_lt P1),hbb.trans (lower_below hb2 hbb.size),(show RowS w wr rb (.slice (some ⟨gf,0,none⟩) FL.length fc) FL from HRw).below hb2,hB1,Nat.le_trans hB2 hb2.size,hB3.trans (lower_below hb2 hB2)⟩
    clear hown hnx hb2 P1 hbb d0 d1 d2 d3 d4 d5 d6 d7 HBr HRw HOw
    go_roundg k1
    case measure=>omega
    case rel=>exact⟨i+1,by simp,by omega,by omega,HN,HN2⟩
   ·rw [if_pos rfl] at hnx
    go_wp2_with fail
    go_still_tail 5,(by kernel_rfl)
    obtain⟨L,hL⟩:∃ L,L=breaksI p.vars (FL.take i) 0:=⟨_,rfl⟩
    have hown:=show wr.ownsRow B 3 1 u4 (breaksI p.vars (FL.take i) 0).length (intsV (breaksI p.vars (FL.take i) 0)) from HOw
    rw [<-hL] at hown hnx hkl
    replace hnx:=Lib.hid hnx
    replace hL:=Lib.hid hL
    have HOw2:=Lib.hid hown
    clear hown HOw
    go_wp2_with (first
     |(go_at_call 88;refine HBr.mono ?_;rintro e w2 ⟨rfl,hb2⟩;replace hb2:=undrew hb2;have hown:=show wr.ownsRow B 3 1 u4 L.length (intsV L) from HOw2;have own2:=own_of hown fun k hk=>hb2.block k (hown.lt k hk).2;have own1:=own2.alloc (.cells #[.int .i64 i] 3);have hB4:B<=w2.heap.size:=Nat.le_trans hB2 hb2.size;have src1:=row_one w2 hB4 (.int .i64 i) 3;have hrw2:=(show RowS w wr rb (.slice (some ⟨gf,0,none⟩) FL.length fc) FL from HRw).below hb2;have hb3:=hbb.trans (lower_below hb2 hbb.size);have P2:PBox w2 kp p Va Ab vc cb:=below_blk hb2 P1 (blk_lt P1);have hB5:=hB3.trans (lower_below hb2 hB2);clear hown)
     |(at_builtin;refine append_row rfl (.tmp 25) (.tmp 27) 86 rfl B 3 j0 _ 1 8 Tryz.underlying86 hj0 jz0 jz1 jz2 rfl (by omega) _ _ _ rfl own1 B _ _ _ rfl src1 (by intro u hu;rw [List.mem_singleton.1 hu];rfl) (by unfold maxLen;omega) (by omega) (by simp;omega) ?_;intro v1 w5 hown5 hgrow5))
    have hbx:=keep_box own1 (alloc_blk (.cells #[.int .i64 i] 3) P2) (by decide) hgrow5
    have hrw5:=keep_rowS own1 (hrw2.below ((Below.refl _ _).alloc (Nat.le_refl _) _)) hgrow5
    have hb6:=below_grown2 (hb3.alloc hb3.size (.cells #[.int .i64 i] 3)) hgrow5 (fun k hk=>Nat.le_trans hB1 (own1.lt k hk).1) (by have:=hb3.size;simp;omega)
    have hb7:=below_grown2 (hB5.alloc hB4 (.cells #[.int .i64 i] 3)) hgrow5 (fun k hk=>(own1.lt k hk).1) (by simp;omega)
    have hsz5:B<=w5.heap.size:=by rcases hgrow5 with h|h;rw [h];simp;omega;have:=h.size;simp at this;omega
    have HN:Hid (w5.ownsRow B 3 1 v1 (breaksI p.vars (FL.take (i+1)) 0).length (intsV (breaksI p.vars (FL.take (i+1)) 0))):=by
     rw [show breaksI p.vars (FL.take (i+1)) 0=_ from hnx]
     exact Lib.hid (by simpa [intsV] using hown5)
    have HN2:Hid (PBox w5 kp p Va Ab vc cb/\Below w.heap.size w w5/\RowS w w5 rb (.slice (some ⟨gf,0,none⟩) FL.length fc) FL/\w.heap.size<=B/\B<=w5.heap.size/\Below B w3 w5):=Lib.hid ⟨hbx,hb6,hrw5,hB1,hsz5,hb7⟩
    clear hown5 hgrow5 hbx hrw5 hb6 hb7 hsz5 own1 own2 src1 hrw2 hb3 P2 hB4 hB5 hb2 P1 hbb d0 d1 d2 d3 d4 d5 d6 d7 HBr HRw HOw2
    go_roundg k1
    case measure=>omega
    case rel=>exact⟨i+1,by simp,by omega,by omega,HN,HN2⟩
  ·have hie:i=FL.length:=by omega
   have t9:decide ((i:Int)<(FL.length:Int))=false:=by simp;omega
   rw [show FL.take i=FL by rw [hie,List.take_length],<-(show K=_ from hK)] at hown
   go_wp2_with fail
   exact bodyPost_ret (v:=u4) (by simp [results,Tryz.results50,go_sem]) rfl ⟨_,rfl,own_base hown hB1,hbb⟩
theorem ref_check {w:World}{p:Al.Prog}{Va Ab:Option Addr}{vc cb:Nat}(hp:PLies w p Va Ab vc cb)(hfl:(Al.flatL p.body).length<=100)(hvl0:p.vars.length<=1000):
  Calls Tryz.prog 19 #[.agg #[.int .i64 p.q,.int .i64 p.n,.slice Va p.vars.length vc,.slice Ab p.body.length cb]] w fun e w'=>e= .returned (.agg #[.int .i64 (Al.checkF p).code,.bool (Al.checkF p).placed,.int .i64 (Al.checkF p).pos])/\Below w.heap.size w w':=by
 obtain⟨R,hR⟩:∃ R,R=Al.checkF p:=⟨_,rfl⟩
 rw [<-hR]
 obtain⟨W,hW⟩:∃ W,W=(w.alloc (.cells #[.int .i64 p.q,.int .i64 p.n,.slice Va p.vars.length vc,.slice Ab p.body.length cb] 27)).alloc (.cells #[.int .i64 0,.bool false,.int .i64 0] 36):=⟨_,rfl⟩
 have hb0:Below w.heap.size w W:=by rw [hW];exact alloc_two _ _ _
 obtain⟨kp,hkp⟩:∃ kp,kp=w.heap.size:=⟨_,rfl⟩
 have V0:VB W kp (kp+1) p Va Ab vc cb:=by rw [hW,hkp];exact⟨alloc_blk _ (heap_alloc_new w _),alloc_at _ _ _⟩
 have HV:=valid_lit (hp.below hb0) hfl hvl0
 have HAll:=fun (h0:(Al.validF p).code=0) (W0:World) (hb:Below w.heap.size w W0)=>ref_all (hp.below hb) hfl h0
 have hbf:=firstF_breaks p.vars (Al.flatL p.body) 0
 have hbl:=breaksI_len p.vars (Al.flatL p.body) 0
 obtain⟨BI,hBI⟩:∃ BI,BI=breaksI p.vars (Al.flatL p.body) 0:=⟨_,rfl⟩
 rw [<-hBI] at hbf hbl
 simp only [<-hBI] at HAll
 clear hBI
 unfold Al.checkF at hR
 rw [hbf] at hR
 clear hbf
 obtain⟨vf,hvf⟩:∃ vf,vf=Al.validF p:=⟨_,rfl⟩
 rw [<-hvf] at hR HV
 simp only [<-hvf] at HAll
 clear hvf hp
 obtain⟨p0,p1,p2,p3⟩:=V0.p.cells
 have hkr:w.heap.size<=kp+1:=by omega
 go_enter Tryz.func19,Tryz.ntmps19
 go_wp2_with fail
 rw [<-hW]
 simp only [<-hkp]
 replace hkp:=Lib.hid hkp
 clear hW
 by_cases hz:vf.code=0
 ·have HA:=HAll hz
  rw [if_neg (by omega)] at hR
  have zz:(vf.code !=0)=false:=by rw [hz];rfl
  have hzh:=Lib.hid hz
  clear HAll hz
  cases BI with
  |nil=>
   have hRv:=Lib.hid hR
   clear hR hbl
   go_wp2_with (first
    |(go_at_call 49;refine HV.mono ?_;rintro e w1 ⟨rfl,hb1⟩;have V1:=V0.below hb1;have hb2:=hb0.trans (lower_below hb1 hb0.size);have V1a:=V1.below ((Below.refl w1.heap.size w1).alloc (Nat.le_refl _) (.cells #[.int .i64 vf.code,.bool vf.placed,.int .i64 vf.pos] 36));have hb2a:=hb2.alloc hb2.size (.cells #[.int .i64 vf.code,.bool vf.placed,.int .i64 vf.pos] 36);obtain⟨r0,r1,r2,r3⟩:=V1a.p.cells)
    |(go_at_call 50;refine (HA _ hb2a).mono ?_;rintro e w3 ⟨v,rfl,hown,hb3⟩;obtain⟨va,vcc,rfl⟩:=own_slice hown;have V3:=V1a.below hb3;have hb4:=hb2a.trans (lower_below hb3 hb2a.size))
    |(go_at_call 52;refine (none_lit _).mono ?_;rintro e w9 ⟨rfl,hb9⟩;have I9:=V3.below hb9;obtain⟨z0,z1,z2,y0,y1,y2⟩:=I9.facts;have hb10:=hb4.trans (lower_below hb9 hb4.size);have F9:=set3 I9.r (.int .i64 0) (.bool false) (.int .i64 0)))
   refine gen_world (Q:=fun W=>bodyPost _ _ _ _ _ W) _ (fun W=>W.heap[kp+1]?=some (.cells #[.int .i64 0,.bool false,.int .i64 0] 36 (0,0))/\Below w.heap.size w W) ⟨F9,below_set3 hb10 hkr⟩ ?_
   clear F9 hb10 hb9 I9 z0 z1 z2 y0 y1 y2
   rintro W9 ⟨F,HB⟩
   have c0:W9.cell? ⟨kp+1,0,none⟩=some (.int .i64 0):=(cell_blk F _).trans rfl
   have c1:W9.cell? ⟨kp+1,1,none⟩=some (.bool false):=(cell_blk F _).trans rfl
   have c2:W9.cell? ⟨kp+1,2,none⟩=some (.int .i64 0):=(cell_blk F _).trans rfl
   exact bodyPost_ret (v:= .agg #[.int .i64 0,.bool false,.int .i64 0]) (by simp [results,Tryz.results19,go_sem,c0,c1,c2]) rfl ⟨by rw [show R=_ from hRv];rfl,HB⟩
  |cons j L=>
   have hRv:=Lib.hid hR
   have HPl:=fun w0=>placed_lit w0 108 j (by decide)
   have tl2:(0:Int)<((j :: L).length:Int):=by simp only [List.length_cons];omega
   have tl:decide ((0:Int)<((j :: L).length:Int))=true:=decide_eq_true tl2
   obtain⟨nl,hnl⟩:∃ nl,nl=(j :: L).length:=⟨_,rfl⟩
   have hnlh:=Lib.hid hnl
   rw [<-hnl] at tl tl2
   clear hR hbl hnl
   go_wp2_with (first
    |(go_at_call 49;refine HV.mono ?_;rintro e w1 ⟨rfl,hb1⟩;have V1:=V0.below hb1;have hb2:=hb0.trans (lower_below hb1 hb0.size);have V1a:=V1.below ((Below.refl w1.heap.size w1).alloc (Nat.le_refl _) (.cells #[.int .i64 vf.code,.bool vf.placed,.int .i64 vf.pos] 36));have hb2a:=hb2.alloc hb2.size (.cells #[.int .i64 vf.code,.bool vf.placed,.int .i64 vf.pos] 36);obtain⟨r0,r1,r2,r3⟩:=V1a.p.cells)
    |(go_at_call 50;refine (HA _ hb2a).mono ?_;rintro e w3 ⟨v,rfl,hown,hb3⟩;obtain⟨va,vcc,rfl⟩:=own_slice hown;obtain⟨ga,rfl,ca⟩:=ints_get (own_ints hown) (j:=0) (by simp);replace ca:w3.cell? ⟨ga,0,none⟩=some (.int .i64 j):=ca;rw [<-(show nl=_ from hnlh)];have V3:=V1a.below hb3;have hb4:=hb2a.trans (lower_below hb3 hb2a.size))
    |(go_at_call 51;refine (HPl _).mono ?_;rintro e w9 ⟨rfl,hb9⟩;have I9:=V3.below hb9;obtain⟨z0,z1,z2,y0,y1,y2⟩:=I9.facts;have hb10:=hb4.trans (lower_below hb9 hb4.size);have F9:=set3 I9.r (.int .i64 108) (.bool true) (.int .i64 j)))
   refine gen_world (Q:=fun W=>bodyPost _ _ _ _ _ W) _ (fun W=>W.heap[kp+1]?=some (.cells #[.int .i64 108,.bool true,.int .i64 j] 36 (0,0))/\Below w.heap.size w W) ⟨F9,below_set3 hb10 hkr⟩ ?_
   clear F9 hb10 hb9 I9 z0 z1 z2 y0 y1 y2
   rintro W9 ⟨F,HB⟩
   have c0:W9.cell? ⟨kp+1,0,none⟩=some (.int .i64 108):=(cell_blk F _).trans rfl
   have c1:W9.cell? ⟨kp+1,1,none⟩=some (.bool true):=(cell_blk F _).trans rfl
   have c2:W9.cell? ⟨kp+1,2,none⟩=some (.int .i64 j):=(cell_blk F _).trans rfl
   exact bodyPost_ret (v:= .agg #[.int .i64 108,.bool true,.int .i64 j]) (by simp [results,Tryz.results19,go_sem,c0,c1,c2]) rfl ⟨by rw [show R=_ from hRv];rfl,HB⟩
 ·rw [if_pos hz] at hR
  have zz:(vf.code !=0)=true:=by simp [hz]
  have zz':(vf.code == 0)=false:=by simp [hz]
  have hRv:=Lib.hid hR
  clear hR HAll hz
  go_wp2_with (first
   |(go_at_call 49;refine HV.mono ?_;rintro e w1 ⟨rfl,hb1⟩;have V1:=V0.below hb1;have hb2:=hb0.trans (lower_below hb1 hb0.size);have V1a:=V1.below ((Below.refl w1.heap.size w1).alloc (Nat.le_refl _) (.cells #[.int .i64 vf.code,.bool vf.placed,.int .i64 vf.pos] 36));have hb10:=hb2.alloc hb2.size (.cells #[.int .i64 vf.code,.bool vf.placed,.int .i64 vf.pos] 36);obtain⟨z0,z1,z2,y0,y1,y2⟩:=V1a.facts;have F9:=set3 V1a.r (.int .i64 vf.code) (.bool vf.placed) (.int .i64 vf.pos)))
  refine gen_world (Q:=fun W=>bodyPost _ _ _ _ _ W) _ (fun W=>W.heap[kp+1]?=some (.cells #[.int .i64 vf.code,.bool vf.placed,.int .i64 vf.pos] 36 (0,0))/\Below w.heap.size w W) ⟨F9,below_set3 hb10 hkr⟩ ?_
  clear F9 hb10 z0 z1 z2 y0 y1 y2
  rintro W9 ⟨F,HB⟩
  have c0:W9.cell? ⟨kp+1,0,none⟩=some (.int .i64 vf.code):=(cell_blk F _).trans rfl
  have c1:W9.cell? ⟨kp+1,1,none⟩=some (.bool vf.placed):=(cell_blk F _).trans rfl
  have c2:W9.cell? ⟨kp+1,2,none⟩=some (.int .i64 vf.pos):=(cell_blk F _).trans rfl
  exact bodyPost_ret (v:= .agg #[.int .i64 vf.code,.bool vf.placed,.int .i64 vf.pos]) (by simp [results,Tryz.results19,go_sem,c0,c1,c2]) rfl ⟨by rw [show R=_ from hRv],HB⟩
end Go.Proofs.YtkplfaionpplaaaGreatDoor
