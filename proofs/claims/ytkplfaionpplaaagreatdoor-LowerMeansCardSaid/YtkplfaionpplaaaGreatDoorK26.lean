/- Part 26: B80. -/
import Derived.Test.YtkplfaionpplaaaGreatDoorK25
set_option maxRecDepth 100000
set_option maxHeartbeats 6400000
set_option linter.unusedVariables false
set_option linter.unusedSimpArgs false
namespace Go.Proofs.YtkplfaionpplaaaGreatDoor
open Go.RowKit Go.Proofs.YtkplfaionpplaaaGreatDoorW.PrintWords
structure AW (w0 w wr:World)(C:XC)(z:Al.RS):Prop where
 x:∃ N,XL w0 wr C z N
 k:KK w wr
theorem AW.of {w0 w wr w2:World}{C:XC}{z z2:Al.RS}(h:AW w0 w wr C z)(hx:∃ N,XL w0 w2 C z2 N)(hk:KK wr w2):AW w0 w w2 C z2:=⟨hx,h.k.trans hk⟩
theorem step_C {w0 w:World}{C:XC}{E:Al.Env}(H:RunE w0 C E){op d a b c k:Int}(g:Al.GoodV E ⟨op,d,a,b,c,k,[],[]⟩)(h12:op<=12){V:Al.Vs}{ad:Addr}(cap:Nat)(R:Rows w ad C.nv C.n C.q V)(x6 x7:Value):
  Calls Tryz.prog 69 #[.agg #[.int .i64 C.q,.int .i64 C.n],.agg #[.int .i64 op,.int .i64 d,.int .i64 a,.int .i64 b,.int .i64 c,.int .i64 k,x6,x7],.slice (some ad) C.nv cap] w fun e w'=>∃ v,e= .returned v/\w'.ownsRow w.heap.size 3 1 v C.n (vecV C.n (Al.stepF E ⟨op,d,a,b,c,k,[],[]⟩ V))/\Below w.heap.size w w':=by
 have h1:=H.q
 have h2:=H.n
 have h3:=H.nv
 rw [h1,h2,h3] at R ⊢
 exact ref_step H.ok H.q2 g h12 cap R x6 x7
theorem exL_cons {E:Al.Env}{fuel:Nat}(s:Al.Stmt)(l:List Al.Stmt)(x:Al.RS)(h:x.over=false):Al.exL E fuel (s :: l) x=Al.exL E fuel l (Al.exS E fuel s x):=by
 conv=>lhs;unfold Al.exL
 rw [if_neg (by rw [h];decide)]
theorem exL_over {E:Al.Env}{fuel:Nat}(l:List Al.Stmt)(x:Al.RS)(h:x.over=true):Al.exL E fuel l x=x:=by
 cases l with
 |nil=>unfold Al.exL;rfl
 |cons s l=>unfold Al.exL;rw [if_pos h]
theorem XL.drew {w0 w:World}{C:XC}{x:Al.RS}{N:Nat}(h:XL w0 w C x N):XL w0 w.drew C x N:=by
 obtain⟨⟨vv,ve,cs,es,h1,hn⟩,h2⟩:=h
 exact⟨⟨vv,ve,cs,es,h1.drew,hn⟩,h2⟩
theorem XL.tape {w0 w:World}{C:XC}{x:Al.RS}{N:Nat}(h:XL w0 w C x N):x.tape=C.tape:=by
 obtain⟨⟨vv,ve,cs,es,h, -⟩, -⟩:=h
 exact h.tp
def sBlk (w:World)(ks:Nat)(op d a b c k:Int)(x6 x7:Value):Prop:=w.heap[ks]?=some (.cells #[.int .i64 op,.int .i64 d,.int .i64 a,.int .i64 b,.int .i64 c,.int .i64 k,x6,x7] 66 (0,0))
theorem sBlk.cells {w:World}{ks:Nat}{op d a b c k:Int}{x6 x7:Value}(h:sBlk w ks op d a b c k x6 x7):w.cell? ⟨ks,0,none⟩=some (.int .i64 op)/\w.cell? ⟨ks,1,none⟩=some (.int .i64 d)/\w.cell? ⟨ks,2,none⟩=some (.int .i64 a)/\w.cell? ⟨ks,3,none⟩=some (.int .i64 b)/\w.cell? ⟨ks,4,none⟩=some (.int .i64 c)/\w.cell? ⟨ks,5,none⟩=some (.int .i64 k)/\w.cell? ⟨ks,6,none⟩=some x6/\w.cell? ⟨ks,7,none⟩=some x7:=
 ⟨(cell_blk h _).trans rfl,(cell_blk h _).trans rfl,(cell_blk h _).trans rfl,(cell_blk h _).trans rfl,(cell_blk h _).trans rfl,(cell_blk h _).trans rfl,(cell_blk h _).trans rfl,(cell_blk h _).trans rfl⟩
theorem sBlk.kk {w w':World}{ks:Nat}{op d a b c k:Int}{x6 x7:Value}(h:sBlk w ks op d a b c k x6 x7)(hk:KK w w'):sBlk w' ks op d a b c k x6 x7:=hk _ (by decide) (by decide) (by decide) _ _ h
set_option maxHeartbeats 51200000 in
theorem all_run_step {w0:World}{C:XC}{E:Al.Env}{deep:Nat}(H:RunE w0 C E)(hA:deep<=6->RunAllC w0 C E (deep+1)):RunAllC w0 C E deep:=by
 intro l A cap hl0 hgood hfl w x N h
 obtain⟨y,hy⟩:∃ y,y=Al.exL E C.fuel l x:=⟨_,rfl⟩
 rw [<-hy]
 have hll:l.length<=1000:=Nat.le_trans (flatL_len l) hfl
 have HH:Hid (AW w0 w w C x):=Lib.hid ⟨⟨N,h⟩,KK.refl w⟩
 have HY:=Lib.hid hy
 have HL:=Lib.hid hl0
 have hn0:0<C.n:=by have:=H.n;have:=H.ok.n0;omega
 have hfu:=H.fuel
 clear hy hl0 h
 go_enter Tryz.func35,Tryz.ntmps35
 go_wp2_with fail
 go_loopg [4,5,6,7,8] (l.length+1) (fun gk v4 v5 v6 v7 v8 w'=>∃ (i:Nat) (z:Al.RS),v4= .int .i64 i/\i+gk=l.length+1/\i<=l.length/\Hid (y=Al.exL E C.fuel (l.drop i) z)/\Hid (AW w0 w w' C z))
 case atStart=>exact⟨0,x,rfl,by omega,by omega,HY,HH⟩
 case round=>
  obtain⟨i,z,rfl,hg,hi2,HYZ,HU⟩:=hrel
  obtain⟨⟨N,hX⟩,hK⟩:=show AW w0 w wr C z from HU
  have hyz:=show y=Al.exL E C.fuel (l.drop i) z from HYZ
  have c12:wr.cell? ⟨C.kx,12,none⟩=some (.bool z.over):=hX.cells.2.2.2.2.1
  clear HH HYZ HU
  obtain⟨k1,rfl⟩:∃ k1,gk=k1+1:=⟨gk - 1,by omega⟩
  by_cases hil:i<l.length
  ·have t1:decide ((i:Int)<(l.length:Int))=true:=decide_eq_true (by omega)
   cases hov:z.over with
   |true=>
    rw [exL_over _ _ hov] at hyz
    rw [hov] at c12
    have P6:Hid ((∃ N,XL w0 wr C y N)/\KK w wr):=Lib.hid ⟨⟨_,by rw [hyz];exact hX⟩,hK⟩
    clear hyz hX hK hov
    go_wp2_with fail
    exact bodyPost_end (v:= .tuple #[]) (by simp [results,Tryz.results35,go_sem]) rfl ⟨rfl,P6⟩
   |false=>
    rw [hov] at c12
    rw [List.drop_eq_getElem_cons hil,exL_cons _ _ _ hov] at hyz
    obtain⟨ad,A6,c6,A7,c7,hAd,d0,d1,d2,d3,d4,d5,d6,d7,l6,g6,l7,g7⟩:=at_T902 (show kStmt.C w0 A l.length l from HL) (i:Int) (by omega) (by omega)
    have hb:=hX.h.b
    replace d0:=cell_since hb d0
    replace d1:=cell_since hb d1
    replace d2:=cell_since hb d2
    replace d3:=cell_since hb d3
    replace d4:=cell_since hb d4
    replace d5:=cell_since hb d5
    replace d6:=cell_since hb d6
    replace d7:=cell_since hb d7
    have hf1:=fun (t:Al.Stmt) (ht:t∈Al.flatS l[i])=>flat_get l i hil ht
    have gs:=goodL_get i hil hgood
    have hbod:=sub_list l l[i] (hf1 _ (Al.flat_self _))
    simp only [rd_get l i hil,Int.toNat_natCast] at d0 d1 d2 d3 d4 d5 d6 d7 l6 g6 l7 g7
    cases hs:l[i] with|mk op d a b c k body els=>
    rw [hs] at d0 d1 d2 d3 d4 d5 d6 d7 l6 g6 l7 g7 hyz gs hbod
    dsimp only at d0 d1 d2 d3 d4 d5 d6 d7 l6 g6 l7 g7 hbod
    subst hAd
    have hd6:=goodS_deep gs
    have HA:=hA hd6
    have hgk:Hid (i+1+k1=l.length+1):=Lib.hid (by omega)
    have i0:(0:Int)<=(i:Int):=by omega
    have i1:(i:Int)<(l.length:Int):=by omega
    obtain⟨W1,hW1⟩:∃ W1,W1=wr.alloc (.cells #[.int .i64 op,.int .i64 d,.int .i64 a,.int .i64 b,.int .i64 c,.int .i64 k,.slice A6 body.length c6,.slice A7 els.length c7] 66):=⟨_,rfl⟩
    have hX1:XL w0 W1 C z N:=by rw [hW1];exact hX.alloc _
    have A1:AW w0 w W1 C z:=⟨⟨_,hX1⟩,hK.trans (by rw [hW1];exact fun t _ _ _ k c hc=>alloc_blk _ hc)⟩
    have S1:sBlk W1 wr.heap.size op d a b c k (.slice A6 body.length c6) (.slice A7 els.length c7):=by rw [hW1];exact heap_alloc_new wr _
    have htp:=Lib.hid hX.tape
    have hze:=Lib.hid hX.l.e
    have hflb:(Al.flatL body).length<=1000:=by omega
    have hfle:(Al.flatL els).length<=1000:=by omega
    replace hX1:=Lib.hid hX1
    replace A1:=Lib.hid A1
    replace S1:=Lib.hid S1
    have G6:=Lib.hid g6
    have G7:=Lib.hid g7
    have hgood':=Lib.hid hgood
    unfold Al.GoodS at gs
    have gs:=gs.2
    clear hf1 hX hK hb g6 g7 hs hgood hov hA hbod
    rcases gs with⟨rfl,va,gb,ge⟩|⟨rfl,kk0,kk1,gb⟩|⟨rfl,kk0,kk1,va,gb⟩|gv
    ·obtain⟨ja,rfl,hja⟩:=nat_var va
     have hva:ja<C.nv:=by have:=H.nv;omega
     have ja0:(0:Int)<=(ja:Int):=by omega
     have ja1:(ja:Int)<(C.nv:Int):=by omega
     have n01:(0:Int)<(C.n:Int):=by omega
     have HS:=lim_step (show XL w0 W1 C z N from hX1) (by omega)
     rw [hW1] at HS
     have hW1':=Lib.hid hW1
     clear hW1
     unfold Al.exS Al.RS.stepThen at hyz
     rw [if_neg (by omega)] at hyz
     by_cases hf:z.steps<C.fuel
     ·rw [if_neg (by omega)] at hyz
      have t3:decide (z.steps<C.fuel)=true:=decide_eq_true hf
      simp only [t3] at HS
      dsimp only at hyz
      rw [if_neg (by decide),if_pos rfl,Int.toNat_natCast] at hyz
      have HYZ:=Lib.hid hyz
      clear hyz
      go_wp2_with (first|(go_at_call 66;(refine HS.mono ?_;rintro e w3 ⟨rfl,hK3,hB3,hX3, -⟩;obtain⟨hX3,he3⟩:=hX3 hf;have A3:=Lib.hid ((show AW w0 w W1 C z from A1).of ⟨_,hX3⟩ (by rw [show W1=_ from hW1'];exact hK3));have S3:=(show sBlk (wr.alloc _) wr.heap.size _ _ _ _ _ _ _ _ from by rw [<-show W1=_ from hW1'];exact S1).kk hK3;obtain⟨s0,s1,s2,s3,s4,s5,s6,s7⟩:=S3.cells;have S3:=Lib.hid S3;replace hX3:=Lib.hid hX3;replace he3:=Lib.hid he3;clear hK3 hB3)))
      obtain⟨adv,vcap,c4,R⟩:=(show XL w0 w3 C _ N from hX3).rows hn0 (by omega)
      obtain⟨Av,ca,r1,r2⟩:=R.c ja hva
      replace r2:=r2 0 hn0
      have r3:w3.cell? Av=some (.int .i64 (z.V ja 0)):=by rw [<-add_zero' Av];exact r2
      clear R
      have HE:=fun (m:Nat) (yes:Bool)=>lim_event ((show XL w0 w3 C _ N from hX3).drewN m) hfu he3 ⟨3,yes,[]⟩ (v:= .slice none 0 0) (World.ownsRow_nil _ _ _ _) (fun k hk=>by cases hk)
      dsimp only at HE
      by_cases hv0:z.V ja 0=0
      ·have t5:(z.V ja 0 !=0)=false:=by simp [hv0]
       have t6:(z.V ja 0 == 0)=true:=by simp [hv0]
       have HF:Hid (y=Al.exL E C.fuel (l.drop (i+1)) (Al.exL E C.fuel els { z with steps:=z.steps+1,evs:=z.evs++[⟨3,false,[]⟩]})):=Lib.hid (by
        have h2:=HYZ.out
        rw [show decide (z.V ja 0≠0)=false by simp [hv0]] at h2
        exact h2)
       clear hv0
       go_wp2_with fail
       go_quiet (fail)
       go_wp2_with (first
        |(go_at_call 68;(refine (HE _ false).mono ?_;rintro e w6 ⟨rfl,hX6,hK6⟩;have A6':=Lib.hid (AW.of (show AW w0 w w3 C _ from A3) ⟨_,hX6⟩ (show KK w3 w6 from hK6));have S6:=(show sBlk w3 wr.heap.size _ _ _ _ _ _ _ _ from S3).kk (show KK w3 w6 from hK6);obtain⟨s0,s1,s2,s3,s4,s5,s6,s7⟩:=S6.cells;have HA6:=HA els A7 c7 (show kStmt.C w0 A7 els.length els from G7) ge hfle w6 _ _ hX6;clear hX6 hK6 S6 HE))
        |(go_at_call 35;(refine HA6.mono ?_;rintro e w7 ⟨rfl,hX7,hK7⟩;have A7':=Lib.hid (AW.of (show AW w0 w w6 C _ from A6') hX7 hK7);clear hX7 hK7 HA6)))
       go_roundg k1
       case measure=>omega
       case rel=>exact⟨i+1,_,by simp,hgk,by omega,HF,A7'⟩
      ·have t5:(z.V ja 0 !=0)=true:=by simp [hv0]
       have t6:(z.V ja 0 == 0)=false:=by simp [hv0]
       have HF:Hid (y=Al.exL E C.fuel (l.drop (i+1)) (Al.exL E C.fuel body { z with steps:=z.steps+1,evs:=z.evs++[⟨3,true,[]⟩]})):=Lib.hid (by
        have h2:=HYZ.out
        rw [show decide (z.V ja 0≠0)=true by simp [hv0]] at h2
        exact h2)
       clear hv0
       go_wp2_with fail
       go_quiet (fail)
       go_wp2_with (first
        |(go_at_call 68;(refine (HE _ true).mono ?_;rintro e w6 ⟨rfl,hX6,hK6⟩;have A6':=Lib.hid (AW.of (show AW w0 w w3 C _ from A3) ⟨_,hX6⟩ (show KK w3 w6 from hK6));have S6:=(show sBlk w3 wr.heap.size _ _ _ _ _ _ _ _ from S3).kk (show KK w3 w6 from hK6);obtain⟨s0,s1,s2,s3,s4,s5,s6,s7⟩:=S6.cells;have HA6:=HA body A6 c6 (show kStmt.C w0 A6 body.length body from G6) gb hflb w6 _ _ hX6;clear hX6 hK6 S6 HE))
        |(go_at_call 35;(refine HA6.mono ?_;rintro e w7 ⟨rfl,hX7,hK7⟩;have A7':=Lib.hid (AW.of (show AW w0 w w6 C _ from A6') hX7 hK7);clear hX7 hK7 HA6)))
       go_roundg k1
       case measure=>omega
       case rel=>exact⟨i+1,_,by simp,hgk,by omega,HF,A7'⟩
     ·rw [if_pos (by omega)] at hyz
      rw [exL_over _ _ rfl] at hyz
      have t3:decide (z.steps<C.fuel)=false:=decide_eq_false hf
      simp only [t3] at HS
      have HF:=Lib.hid hyz
      clear hyz
      go_wp2_with (first|(go_at_call 66;(refine HS.mono ?_;rintro e w3 ⟨rfl,hK3,hB3, -,hX3⟩;have P6:Hid ((∃ N,XL w0 w3 C y N)/\KK w w3):=Lib.hid ⟨⟨_,by rw [show y=_ from HF];exact hX3 hf⟩,((show AW w0 w W1 C z from A1).of ⟨_,hX3 hf⟩ (by rw [show W1=_ from hW1'];exact hK3)).k⟩;clear hK3 hB3 hX3)))
      exact bodyPost_ret (v:= .tuple #[]) (by simp [results,Tryz.results35,go_sem]) rfl ⟨rfl,P6⟩
    ·obtain⟨K,rfl⟩:=Int.eq_ofNat_of_zero_le (show 0<=k by omega)
     have HS:=lim_step (show XL w0 W1 C z N from hX1) (by omega)
     rw [hW1] at HS
     have hW1':=Lib.hid hW1
     clear hW1
     unfold Al.exS Al.RS.stepThen at hyz
     rw [if_neg (by omega)] at hyz
     by_cases hf:z.steps<C.fuel
     ·rw [if_neg (by omega)] at hyz
      have t3:decide (z.steps<C.fuel)=true:=decide_eq_true hf
      simp only [t3] at HS
      dsimp only at hyz
      rw [if_neg (by decide),if_neg (by decide),if_pos rfl,Int.toNat_natCast] at hyz
      obtain⟨z3,hz3⟩:∃ z3,z3=Al.timesN (Al.exL E C.fuel body) K { z with steps:=z.steps+1}:=⟨_,rfl⟩
      rw [<-hz3] at hyz
      have HYZ:=Lib.hid hyz
      have HZ3:=Lib.hid hz3
      clear hyz hz3
      go_wp2_with (first|(go_at_call 66;(refine HS.mono ?_;rintro e w3 ⟨rfl,hK3,hB3,hX3, -⟩;obtain⟨hX3,he3⟩:=hX3 hf;have A3:=Lib.hid ((show AW w0 w W1 C z from A1).of ⟨_,hX3⟩ (by rw [show W1=_ from hW1'];exact hK3));have S3:=(show sBlk (wr.alloc _) wr.heap.size _ _ _ _ _ _ _ _ from by rw [<-show W1=_ from hW1'];exact S1).kk hK3;obtain⟨s0,s1,s2,s3,s4,s5,s6,s7⟩:=S3.cells;have S3:=Lib.hid S3;replace hX3:=Lib.hid hX3;replace he3:=Lib.hid he3;clear hK3 hB3)))
      obtain⟨wo,rfl⟩:∃ wo:World,wo=wr:=⟨_,rfl⟩
      have HU3:Hid (AW w0 w w3 C { z with steps:=z.steps+1}/\sBlk w3 wo.heap.size 15 d a b c K (.slice A6 body.length c6) (.slice A7 els.length c7)):=Lib.hid ⟨A3,S3⟩
      clear s0 s1 s2 s3 s4 s5 s6 s7 hX3 he3 A3 S3 c12 d0 d1 d2 d3 d4 d5 d6 d7
      go_loopg [7] (K+1) (fun gk v7 w'=>∃ (j:Nat) (zz:Al.RS),v7= .int .i64 j/\j+gk=K+1/\j<=K/\Hid (z3=Al.timesN (Al.exL E C.fuel body) (K - j) zz)/\Hid (AW w0 w w' C zz/\sBlk w' wo.heap.size 15 d a b c K (.slice A6 body.length c6) (.slice A7 els.length c7)))
      case atStart=>exact⟨0,_,rfl,by omega,by omega,HZ3,HU3⟩
      case round=>
       obtain⟨j,zz,rfl,hgj,hj2,HZZ,HU⟩:=hrel
       obtain⟨AZ,SZ⟩:=show AW w0 w wr C zz/\sBlk wr wo.heap.size 15 d a b c K (.slice A6 body.length c6) (.slice A7 els.length c7) from HU
       have hzz:=show z3=Al.timesN (Al.exL E C.fuel body) (K - j) zz from HZZ
       obtain⟨⟨NZ,hXZ⟩,hKZ⟩:=AZ
       have c12:=hXZ.cells.2.2.2.2.1
       obtain⟨s0,s1,s2,s3,s4,s5,s6,s7⟩:=SZ.cells
       clear HU3 HZZ HU s0 s1 s2 s3 s4 s7
       obtain⟨k2,rfl⟩:∃ k2,gk=k2+1:=⟨gk - 1,by omega⟩
       have HYZ':Hid (y=Al.exL E C.fuel (l.drop (i+1)) z3):=HYZ
       by_cases hjk:j<K
       ·have t4:decide (j<K)=true:=decide_eq_true hjk
        have t4i:decide ((j:Int)<(K:Int))=true:=decide_eq_true (by omega)
        obtain⟨m,hm⟩:∃ m,K - j=m+1:=⟨K - j - 1,by omega⟩
        rw [hm] at hzz
        unfold Al.timesN at hzz
        cases hzo:zz.over with
        |true=>
         rw [hzo] at c12
         rw [if_pos hzo] at hzz
         have A7':Hid (AW w0 w wr C z3):=Lib.hid (by rw [hzz];exact⟨⟨_,hXZ⟩,hKZ⟩)
         clear hzz hXZ hKZ SZ hm hzo HYZ
         go_wp2_with fail
         go_roundg k1
         case measure=>omega
         case rel=>exact⟨i+1,z3,by simp,hgk,by omega,HYZ',A7'⟩
        |false=>
         rw [hzo] at c12
         rw [if_neg (by rw [hzo];decide)] at hzz
         have HA6:=HA body A6 c6 (show kStmt.C w0 A6 body.length body from G6) gb hflb wr zz NZ hXZ
         have HZ':Hid (z3=Al.timesN (Al.exL E C.fuel body) (K - (j+1)) (Al.exL E C.fuel body zz)):=Lib.hid (by rw [hzz,show K - (j+1)=m by omega])
         have hgj':Hid (j+1+k2=K+1):=Lib.hid (by omega)
         have hKZ':=Lib.hid hKZ
         have SZ':=Lib.hid SZ
         clear hzz hXZ hKZ SZ hm hzo HYZ
         go_wp2_with (first
          |(go_at_call 35;((with_reducible refine HA6.mono ?_);rintro e w7 ⟨rfl,hX7,hK7⟩;have U7:Hid (AW w0 w w7 C (Al.exL E C.fuel body zz)/\sBlk w7 wo.heap.size 15 d a b c K (.slice A6 body.length c6) (.slice A7 els.length c7)):=Lib.hid ⟨⟨hX7,(show KK w wr from hKZ').trans hK7⟩,(show sBlk wr wo.heap.size 15 d a b c K (.slice A6 body.length c6) (.slice A7 els.length c7) from SZ').kk hK7⟩;clear hX7 hK7 HA6)))
         go_roundg k2
         case measure=>omega
         case rel=>exact⟨j+1,_,by simp,hgj',by omega,HZ',U7⟩
       ·have t4:decide (j<K)=false:=decide_eq_false hjk
        have t4i:decide ((j:Int)<(K:Int))=false:=decide_eq_false (by omega)
        rw [show K - j=0 by omega] at hzz
        unfold Al.timesN at hzz
        have A7':Hid (AW w0 w wr C z3):=Lib.hid (by rw [hzz];exact⟨⟨_,hXZ⟩,hKZ⟩)
        clear hzz hXZ hKZ SZ HYZ
        go_wp2_with fail
        go_roundg k1
        case measure=>omega
        case rel=>exact⟨i+1,z3,by simp,hgk,by omega,HYZ',A7'⟩
     ·rw [if_pos (by omega)] at hyz
      rw [exL_over _ _ rfl] at hyz
      have t3:decide (z.steps<C.fuel)=false:=decide_eq_false hf
      simp only [t3] at HS
      have HF:=Lib.hid hyz
      clear hyz
      go_wp2_with (first|(go_at_call 66;(refine HS.mono ?_;rintro e w3 ⟨rfl,hK3,hB3, -,hX3⟩;have P6:Hid ((∃ N,XL w0 w3 C y N)/\KK w w3):=Lib.hid ⟨⟨_,by rw [show y=_ from HF];exact hX3 hf⟩,((show AW w0 w W1 C z from A1).of ⟨_,hX3 hf⟩ (by rw [show W1=_ from hW1'];exact hK3)).k⟩;clear hK3 hB3 hX3)))
      exact bodyPost_ret (v:= .tuple #[]) (by simp [results,Tryz.results35,go_sem]) rfl ⟨rfl,P6⟩
    ·obtain⟨K,rfl⟩:=Int.eq_ofNat_of_zero_le (show 0<=k by omega)
     have HU:=until_run H HA (d:=d) (b:=b) (c:=c) (c6:=c6) (K:=K) (show kStmt.C w0 A6 body.length body from G6) (.slice A7 els.length c7) va (by omega) gb hflb (show XL w0 W1 C z N from hX1)
     rw [hW1] at HU
     have HF:Hid (y=Al.exL E C.fuel (l.drop (i+1)) (Al.untilN C.fuel a.toNat (Al.exL E C.fuel body) K z)):=Lib.hid (by rw [hyz];unfold Al.exS;rw [if_pos rfl];rfl)
     have hW1':=Lib.hid hW1
     clear hyz hW1
     go_wp2_with (first|(go_at_call 65;(refine HU.mono ?_;rintro e w3 ⟨rfl,hX3,hK3⟩;have A3:Hid (AW w0 w w3 C _):=Lib.hid ((show AW w0 w W1 C z from A1).of hX3 (by rw [show W1=_ from hW1'];exact hK3));clear hX3 hK3)))
     go_roundg k1
     case measure=>omega
     case rel=>exact⟨i+1,_,by simp,hgk,by omega,HF,A3⟩
    ·have g1:=gv.op
     dsimp only at g1
     obtain⟨jd,rfl,hjd⟩:=nat_var gv.d
     have hvd:jd<C.nv:=by have:=H.nv;omega
     have jd0:(0:Int)<=(jd:Int):=by omega
     have jd1:(jd:Int)<(C.nv:Int):=by omega
     have t16:(op == 16)=false:=by simp;omega
     have u16:op≠16:=by omega
     have HGV:=Lib.hid gv
     clear gv
     have HS:=lim_step (show XL w0 W1 C z N from hX1) (by omega)
     rw [hW1] at HS
     have hW1':=Lib.hid hW1
     clear hW1
     unfold Al.exS Al.RS.stepThen at hyz
     rw [if_neg u16] at hyz
     by_cases hf:z.steps<C.fuel
     ·rw [if_neg (by omega)] at hyz
      have t3:decide (z.steps<C.fuel)=true:=decide_eq_true hf
      simp only [t3] at HS
      dsimp only at hyz
      by_cases hd13:op=13
      ·subst hd13
       rw [if_pos rfl,Int.toNat_natCast] at hyz
       have HF:Hid (y=Al.exL E C.fuel (l.drop (i+1)) (Al.drawGo E C.fuel jd (C.tape.drop z.used) 0 (fun _=>0) { z with steps:=z.steps+1})):=Lib.hid (by rw [hyz,<-show z.tape=C.tape from htp])
       clear hyz
       go_wp2_with (first
        |(go_at_call 66;(refine HS.mono ?_;rintro e w3 ⟨rfl,hK3,hB3,hX3, -⟩;obtain⟨hX3,he3⟩:=hX3 hf;have A3:=Lib.hid ((show AW w0 w W1 C z from A1).of ⟨_,hX3⟩ (by rw [show W1=_ from hW1'];exact hK3));have S3:=(show sBlk (wr.alloc _) wr.heap.size _ _ _ _ _ _ _ _ from by rw [<-show W1=_ from hW1'];exact S1).kk hK3;obtain⟨s0,s1,s2,s3,s4,s5,s6,s7⟩:=S3.cells;have S3:=Lib.hid S3;replace hX3:=Lib.hid hX3;replace he3:=Lib.hid he3;clear hK3 hB3))
        |(go_at_call 67;(refine (run_draw H.ok H.q2 H.q H.n H.bits H.fuel H.T H.t H.tl (show XL w0 w3 C _ N from hX3) hvd).mono ?_;rintro e w6 ⟨rfl,hX6,hK6⟩;have A6':=Lib.hid (AW.of (show AW w0 w w3 C _ from A3) hX6 hK6);clear hX6 hK6)))
       go_roundg k1
       case measure=>omega
       case rel=>exact⟨i+1,_,by simp,hgk,by omega,HF,A6'⟩
      ·have hop:op<=12:=by omega
       have t13:(op == 13)=false:=by simp;omega
       have t14:(op == 14)=false:=by simp;omega
       have t15:(op == 15)=false:=by simp;omega
       rw [if_neg hd13,if_neg (by omega),if_neg (by omega),Int.toNat_natCast] at hyz
       obtain⟨F,hF⟩:∃ F,F=Al.stepF E ⟨op,jd,a,b,c,k,[],[]⟩ z.V:=⟨_,rfl⟩
       rw [<-hF] at hyz
       have HYZ:=Lib.hid hyz
       clear hyz
       have hop2:=Lib.hid hop
       have op1:=Lib.hid g1.1
       clear hop g1 hd13 u16
       go_wp2_with (first|(go_at_call 66;(refine HS.mono ?_;rintro e w3 ⟨rfl,hK3,hB3,hX3, -⟩;obtain⟨hX3,he3⟩:=hX3 hf;have A3:=Lib.hid ((show AW w0 w W1 C z from A1).of ⟨_,hX3⟩ (by rw [show W1=_ from hW1'];exact hK3));have S3:=(show sBlk (wr.alloc _) wr.heap.size _ _ _ _ _ _ _ _ from by rw [<-show W1=_ from hW1'];exact S1).kk hK3;obtain⟨s0,s1,s2,s3,s4,s5,s6,s7⟩:=S3.cells;have S3:=Lib.hid S3;replace hX3:=Lib.hid hX3;replace he3:=Lib.hid he3;clear hK3 hB3)))
       obtain⟨adv,vcap,c4,R⟩:=(show XL w0 w3 C _ N from hX3).rows hn0 (by omega)
       obtain⟨c0,c1, -, -, -, -⟩:=(show XL w0 w3 C _ N from hX3).cells
       have HC:=step_C (w:=w3.drew) H (show Al.GoodV E ⟨op,jd,a,b,c,k,[],[]⟩ from HGV) hop2 vcap (V:=z.V) ⟨R.c,R.r⟩ (.slice A6 body.length c6) (.slice A7 els.length c7)
       rw [<-hF] at HC
       have HFr:Hid (∀ j,j<C.n->0<=F j/\F j<C.q):=Lib.hid (fun j hj=>by
        have h1:=H.nv;have h2:=H.n;have h3:=H.q
        rw [hF,h3]
        exact Al.step_range H.ok (show Al.GoodV E ⟨op,jd,a,b,c,k,[],[]⟩ from HGV) (show op<=12 from hop2) (fun v j' hv hj'=>by rw [<-h3];exact R.r v (by omega) j' (by omega)) (by omega))
       have HFF:=Lib.hid hF
       clear R hF
       go_wp2_with fail
       go_still_tail 10,(by kernel_rfl)
       go_wp2_with (first|(go_at_call 69;(refine HC.mono ?_;rintro e w4 ⟨v,rfl,hown,hb4⟩;replace hb4:=undrew hb4;have hX4:=(show XL w0 w3 C _ N from hX3).below hb4;have S4:=(show sBlk w3 wr.heap.size _ _ _ _ _ _ _ _ from S3).kk (KK.below hb4);have A4:=(show AW w0 w w3 C _ from A3).of ⟨_,hX4⟩ (KK.below hb4);obtain⟨s0,s1,s2,s3,s4,s5,s6,s7⟩:=S4.cells;have hown:=own_lower hown (show w0.heap.size<=w3.drew.heap.size from (show XL w0 w3 C _ N from hX3).h.b.size);obtain⟨g4,vcap4,c4',⟨u4,e4⟩,e5,hne4,hX5,hK5⟩:=hX4.vec hvd hown HFr;have hX5:=Lib.hid hX5.drew;have A5:=Lib.hid (A4.of ⟨_,hX5⟩ (show KK w4 _ from hK5));have S5:=S4.kk hK5;obtain⟨p0, -, -, -, -, -, -, -⟩:=S5.cells;have S5:=Lib.hid S5;have hown5:=Lib.hid (KK.own hK5 hown);clear hb4 hX4 S4 A4 hown hX3 A3 S3 HC hK5)))
       obtain⟨Av,capv,rfl,hV5⟩:=own_vec hn0 hown5
       obtain⟨Av',rfl,hV5⟩:=hV5
       replace hV5:Vec _ (some Av') C.n F:=⟨Av',rfl,hV5⟩
       have hV5:=Lib.hid hV5
       go_wp2_with fail
       go_still_tail 8,(by kernel_rfl)
       by_cases h12:op=12
       ·have t12:(op == 12)=true:=by simp [h12]
        have HF:Hid (y=Al.exL E C.fuel (l.drop (i+1)) { z with steps:=z.steps+1,V:=Al.setV z.V jd F,evs:=z.evs++[⟨1,false,vecN C.n F⟩]}):=Lib.hid (by
         have h2:=HYZ.out
         rw [if_pos h12,show Al.vecOf E F=vecN C.n F by unfold Al.vecOf vecN;rw [H.n]] at h2
         exact h2)
        clear h12
        go_upto_region 11 with (fail)
        refine gen_world (Q:=fun W=>Code.wp _ _ _ _ W) _ (fun W=>XL w0 W C { z with steps:=z.steps+1,V:=Al.setV z.V jd F} w4.heap.size/\KK w W/\Vec W (some Av') C.n F) ⟨hX5,A5.out.k,hV5⟩ ?_
        clear hX5 A5 hV5 p0 s0 s1 s2 s3 s4 s5 s6 s7 e4 e5 c4' S5 hown5
        rintro W5 ⟨hX5,hK5,hV5⟩
        have HI:=ref_ints capv hV5 (by have:=H.n;have:=H.ok.n1;omega)
        have hbs:=hX5.h.b.size
        have hX5:=Lib.hid hX5
        have hK5:=Lib.hid hK5
        clear hV5
        go_wp2_with (first
         |(go_at_call 34;((with_reducible refine HI.mono ?_);rintro e w6 ⟨v2,rfl,hown2,hb6⟩;obtain⟨a2,c2,rfl⟩:=own_slice hown2;have hX6:=((show XL w0 W5 C _ w4.heap.size from hX5).below hb6).now;have hK6:=(show KK w W5 from hK5).trans (KK.below hb6);have HE:=lim_event hX6 hfu he3 ⟨1,false,vecN C.n F⟩ (v:= .slice a2 C.n c2) (by dsimp only;rw [vecN_len];exact own_lower hown2 hbs) (fun k hk=>(hown2.lt k hk).2);dsimp only at HE;have hK6:=Lib.hid hK6;clear hown2 hb6 hX6 HI))
         |(go_at_call 68;((with_reducible refine HE.mono ?_);rintro e w7 ⟨rfl,hX7,hK7⟩;have A7':Hid (AW w0 w w7 C _):=Lib.hid ⟨⟨_,hX7⟩,(show KK w w6 from hK6).trans hK7⟩;clear hX7 hK7 HE)))
        go_roundg k1
        case measure=>omega
        case rel=>exact⟨i+1,_,by simp,hgk,by omega,HF,A7'⟩
       ·have t12:(op == 12)=false:=by simp [h12]
        have HF:Hid (y=Al.exL E C.fuel (l.drop (i+1)) { z with steps:=z.steps+1,V:=Al.setV z.V jd F}):=Lib.hid (by
         have h2:=HYZ.out
         rw [if_neg h12] at h2
         exact h2)
        clear h12
        go_wp2_with fail
        go_roundg k1
        case measure=>omega
        case rel=>exact⟨i+1,_,by simp,hgk,by omega,HF,A5⟩
     ·rw [if_pos (by omega)] at hyz
      rw [exL_over _ _ rfl] at hyz
      have t3:decide (z.steps<C.fuel)=false:=decide_eq_false hf
      simp only [t3] at HS
      have HF:=Lib.hid hyz
      clear hyz
      go_wp2_with (first|(go_at_call 66;(refine HS.mono ?_;rintro e w3 ⟨rfl,hK3,hB3, -,hX3⟩;have P6:Hid ((∃ N,XL w0 w3 C y N)/\KK w w3):=Lib.hid ⟨⟨_,by rw [show y=_ from HF];exact hX3 hf⟩,((show AW w0 w W1 C z from A1).of ⟨_,hX3 hf⟩ (by rw [show W1=_ from hW1'];exact hK3)).k⟩;clear hK3 hB3 hX3)))
      exact bodyPost_ret (v:= .tuple #[]) (by simp [results,Tryz.results35,go_sem]) rfl ⟨rfl,P6⟩
  ·have hie:i=l.length:=by omega
   have t1:decide ((i:Int)<(l.length:Int))=false:=decide_eq_false (by omega)
   rw [hie,List.drop_length] at hyz
   have P6:Hid ((∃ N,XL w0 wr C y N)/\KK w wr):=Lib.hid ⟨⟨_,by rw [hyz];unfold Al.exL;exact hX⟩,hK⟩
   clear hyz hX hK hie
   go_wp2_with fail
   exact bodyPost_end (v:= .tuple #[]) (by simp [results,Tryz.results35,go_sem]) rfl ⟨rfl,P6⟩
theorem run_all {w0:World}{C:XC}{E:Al.Env}(H:RunE w0 C E):RunAllC w0 C E 0:=by
 have h:∀ (n deep:Nat),deep+n=7->RunAllC w0 C E deep:=by
  intro n
  induction n with
  |zero=>intro deep hd;exact all_run_step H (fun h=>by omega)
  |succ n ih=>intro deep hd;exact all_run_step H (fun _=>ih (deep+1) (by omega))
 exact h 7 0 rfl
end Go.Proofs.YtkplfaionpplaaaGreatDoor
