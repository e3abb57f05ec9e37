/- Part 17: B54, B55, B58. -/
import Derived.Test.YtkplfaionpplaaaGreatDoorK16
set_option maxRecDepth 100000
set_option maxHeartbeats 6400000
set_option linter.unusedVariables false
set_option linter.unusedSimpArgs false
namespace Go.Proofs.YtkplfaionpplaaaGreatDoor
open Go.RowKit Go.Proofs.YtkplfaionpplaaaGreatDoorW.PrintWords
theorem flat_get:∀ (l:List Al.Stmt) (i:Nat) (h:i<l.length) {t:Al.Stmt},t∈Al.flatS l[i]->t∈Al.flatL l
 |s :: l,0,_,t,ht=>by simp only [Al.flatL];exact List.mem_append_left _ ht
 |s :: l,i+1,h,t,ht=>by simp only [Al.flatL];exact List.mem_append_right _ (flat_get l i (by simpa using h) ht)
def WorkMC (W0:World)(d:Nat):Prop:=∀ (l:List Al.Stmt) (A:Option Addr) (cap:Nat) (dd:Int),dd=(d:Int) - 1->kStmt.C W0 A l.length l->l.length<=1000000000->(∀ s∈Al.flatL l,s.body.length<=1000000000/\s.els.length<=1000000000)->∀ w,Below W0.heap.size W0 w->
 Calls Tryz.prog 64 #[.slice A l.length cap,.int .i64 dd] w fun e w'=>e= .returned (.int .i64 (Al.workF d l))/\Below w.heap.size w w'
theorem work_neg {W0:World}:WorkMC W0 0:=by
 intro l A cap dd hdd hl hll hsub w hB
 have t0:decide (dd<0)=true:=decide_eq_true (by omega)
 clear hdd
 go_enter Tryz.func64,Tryz.ntmps64
 go_wp2_with fail
 exact bodyPost_ret (v:= .int .i64 1000) (by simp [results,Tryz.results64,go_sem]) rfl ⟨rfl,Below.refl _ _⟩
theorem work_step {W0:World}{d:Nat}(hd13:d<=1000)(hm:WorkMC W0 d):WorkMC W0 (d+1):=by
 intro l A cap dd hdd hl hll hsub w hB
 obtain rfl:dd=(d:Int):=by omega
 clear hdd
 obtain⟨R,hR0⟩:∃ R,R=Al.goW (Al.workF d) l 0:=⟨_,rfl⟩
 have hF:Al.workF (d+1) l=min R 1000:=by rw [hR0];rfl
 rw [hF]
 have td:decide ((d:Int)<0)=false:=decide_eq_false (by omega)
 have HL:=Lib.hid hl
 have HB:=Lib.hid hB
 have HS:=Lib.hid hsub
 have HR0:=Lib.hid hR0
 clear hl hB hR0 hF hsub
 go_enter Tryz.func64,Tryz.ntmps64
 go_wp2_with fail
 go_loopg [5,6,7,8,9] (l.length+1) (fun gk v5 v6 v7 v8 v9 w'=>∃ (i:Nat) (n:Int),v6= .int .i64 i/\v5= .int .i64 n/\i+gk=l.length+1/\i<=l.length/\0<=n/\n<=2000000/\Hid (Al.goW (Al.workF d) (l.drop i) n=R/\Below w.heap.size w w'))
 case atStart=>exact⟨0,0,rfl,rfl,by omega,by omega,by omega,by omega,show _/\_ from⟨(show R=_ from HR0).symm,Below.refl _ _⟩⟩
 case round=>
  obtain⟨i,n,rfl,rfl,hg,hi2,hn0,hn1,HR⟩:=hrel
  obtain⟨hgo,hR⟩:=show Al.goW (Al.workF d) (l.drop i) n=R/\Below w.heap.size w wr from HR
  have hB:=show Below W0.heap.size W0 w from HB
  have hB1:Below W0.heap.size W0 wr:=hB.trans (lower_below hR hB.size)
  by_cases hil:i<l.length
  ·have r0:(0:Int)<=(i:Int):=by omega
   have r1:(i:Int)<(l.length:Int):=by omega
   have r2:decide ((i:Int)<(l.length:Int))=true:=decide_eq_true r1
   rw [List.drop_eq_getElem_cons hil] at hgo
   unfold Al.goW at hgo
   by_cases hn:n<1000
   ·rw [if_pos hn] at hgo
    have r3:decide (n<1000)=true:=decide_eq_true hn
    obtain⟨k1,rfl⟩:∃ k1,gk=k1+1:=⟨gk - 1,by omega⟩
    obtain⟨ad,A6,c6,A7,c7,rfl,d0,d1,d2,d3,d4,d5,d6,d7,l6,g6,l7,g7⟩:=at_T902 (show kStmt.C W0 A l.length l from HL) (i:Int) (by omega) (by omega)
    clear d1 d2 d3 d4
    replace d0:=cell_since hB1 d0
    replace d5:=cell_since hB1 d5
    replace d6:=cell_since hB1 d6
    replace d7:=cell_since hB1 d7
    simp only [Int.toNat_natCast] at d0 d5 d6 d7
    obtain⟨s,hs⟩:∃ s,s=rd_T902 l (i:Int):=⟨_,rfl⟩
    simp only [<-hs] at d0 d5 d6 d7 l6 g6 l7 g7
    rw [rd_get l i hil] at hs
    rw [<-hs] at hgo
    have hmem:∀ t∈Al.flatS s,t∈Al.flatL l:=fun t ht=>flat_get l i hil (by rw [<-hs];exact ht)
    have hsub:=show ∀ s∈Al.flatL l,s.body.length<=1000000000/\s.els.length<=1000000000 from HS
    have hss:=hsub s (hmem s (Al.flat_self s))
    have hsb:∀ t∈Al.flatL s.body,t.body.length<=1000000000/\t.els.length<=1000000000:=fun t ht=>hsub t (hmem t (Al.flat_bodyS ht))
    have hse:∀ t∈Al.flatL s.els,t.body.length<=1000000000/\t.els.length<=1000000000:=fun t ht=>hsub t (hmem t (by rw [flatS_eq];exact List.mem_cons_of_mem _ (List.mem_append_right _ ht)))
    have HD1:=fun w1 dd hdd=>hm s.body A6 c6 dd hdd g6 hss.1 hsb w1
    have HD2:=fun w1 dd hdd=>hm s.els A7 c7 dd hdd g7 hss.2 hse w1
    clear hmem hsub hss hsb hse hs
    have hx1:=Al.workF_le d s.body
    have hx0:=Al.workF_nonneg d s.body
    have hy1:=Al.workF_le d s.els
    have hy0:=Al.workF_nonneg d s.els
    obtain⟨nn,hnn⟩:∃ nn,nn=Al.wS (Al.workF d) s:=⟨_,rfl⟩
    rw [<-hnn] at hgo
    unfold Al.wS at hnn
    obtain⟨x,hx⟩:∃ x,x=Al.workF d s.body:=⟨_,rfl⟩
    obtain⟨y,hy⟩:∃ y,y=Al.workF d s.els:=⟨_,rfl⟩
    rw [<-hx] at HD1 hnn hx1 hx0
    rw [<-hy] at HD2 hnn hy1 hy0
    clear hx hy
    obtain⟨mm,hmm⟩:∃ mm,mm=min (x+y) 1000:=⟨_,rfl⟩
    rw [<-hmm] at hnn
    have hm0:0<=mm:=by omega
    have hm1:mm<=1000:=by omega
    obtain⟨kk,hkk⟩:∃ kk,kk=max (min s.k 1000) 1:=⟨_,rfl⟩
    rw [<-hkk] at hnn
    have hk0:1<=kk:=by omega
    have hk1:kk<=1000:=by omega
    have hmk0:0<=mm * kk:=Int.mul_nonneg hm0 (by omega)
    have hmk1:mm * kk<=1000 * 1000:=Int.mul_le_mul hm1 hk1 (by omega) (by omega)
    replace hmm:=Lib.hid hmm
    replace hkk:=Lib.hid hkk
    replace hgo:=Lib.hid hgo
    have hw1:wrap64 (x+y)=x+y:=by unfold wrap64;omega
    have hw0:wrap64 ((d:Int) - 1)=(d:Int) - 1:=by unfold wrap64;omega
    have hw2:IntKind.i64.wrap ((d:Int) - 1)=(d:Int) - 1:=IntWalk.i64_in _ (by omega)
    have hBd:Below W0.heap.size W0 wr.drew:=below_drew' hB1
    by_cases p7:s.op=7
    ·have q7:(s.op == 7)=true:=by rw [p7];rfl
     have q15:(s.op == 15)=false:=by rw [p7];rfl
     have q16:(s.op == 16)=false:=by rw [p7];rfl
     rw [if_pos p7,if_neg (by omega)] at hnn
     clear p7
     clear HR
     go_wp2_with fail
     go_region_held3 (fun w'=>w'.cell? ⟨(ad.add (i * 8)).block,(ad.add (i * 8)).off+6,none⟩=some (.slice A6 s.body.length c6)/\w'.cell? ⟨(ad.add (i * 8)).block,(ad.add (i * 8)).off+7,none⟩=some (.slice A7 s.els.length c7)) ((constructor<;> assumption)) (first
      |(go_at_call 64;refine (HD1 _ _ (by first|exact hw2|exact hw0|rfl) hBd).mono ?_;rintro e w2 ⟨rfl,hb2⟩;replace hb2:=undrew hb2;have hB2:=hB1.trans (lower_below hb2 hB1.size);have e6:=cell_since hb2 d6;have e7:=cell_since hb2 d7;have e0:=cell_since hb2 d0;have e5:=cell_since hb2 d5;clear d0 d5 d6 d7 HD1)
      |(go_at_call 64;refine (HD2 _ _ (by first|exact hw2|exact hw0|rfl) hB2).mono ?_;rintro e w3 ⟨rfl,hb3⟩;have f6:=cell_since hb3 e6;have f7:=cell_since hb3 e7;have f0:=cell_since hb3 e0;have f5:=cell_since hb3 e5;clear e0 e5 e6 e7 HD2))
     have hR3:Hid (Below w.heap.size w w3):=Lib.hid ((hR.trans (lower_below hb2 hR.size)).trans (lower_below hb3 (Nat.le_trans hR.size hb2.size)))
     clear hb2 hb3 hB2 hBd f6 f7
     have hw:IntKind.i64.wrap (x+y)=x+y:=IntWalk.i64_in _ (by omega)
     try rw [hw]
     have hV:(if 1000<x+y then 1000 else x+y)=mm:=by rw [show mm=_ from hmm];split<;> omega
     rw [hV]
     clear hV hw hw0 hw1 hw2 hmm
     have g0:=f0
     have g5:=f5
     replace hnn:=Lib.hid hnn
     have hnE:n+nn=n+8+mm:=by rw [show nn=_ from hnn];omega
     have HN:Hid (Al.goW (Al.workF d) (l.drop (i+1)) (n+8+mm)=R/\Below w.heap.size w w3):=show _/\_ from⟨by rw [<-hnE];exact hgo,hR3⟩
     clear hnE
     go_wp2_with fail
     go_roundg k1
     case measure=>omega
     case rel=>exact⟨i+1,n+8+mm,by simp,rfl,by omega,by omega,by omega,by omega,HN⟩
    have q7:(s.op == 7)=false:=beq_false_of_ne p7
    rw [if_neg p7] at hnn
    by_cases p15:s.op=15
    ·have q15:(s.op == 15)=true:=by rw [p15];rfl
     rw [if_pos (.inl p15)] at hnn
     clear p7 p15
     clear HR
     go_wp2_with fail
     go_region_held3 (fun w'=>w'.cell? ⟨(ad.add (i * 8)).block,(ad.add (i * 8)).off+6,none⟩=some (.slice A6 s.body.length c6)/\w'.cell? ⟨(ad.add (i * 8)).block,(ad.add (i * 8)).off+7,none⟩=some (.slice A7 s.els.length c7)) ((constructor<;> assumption)) (first
      |(go_at_call 64;refine (HD1 _ _ (by first|exact hw2|exact hw0|rfl) hBd).mono ?_;rintro e w2 ⟨rfl,hb2⟩;replace hb2:=undrew hb2;have hB2:=hB1.trans (lower_below hb2 hB1.size);have e6:=cell_since hb2 d6;have e7:=cell_since hb2 d7;have e0:=cell_since hb2 d0;have e5:=cell_since hb2 d5;clear d0 d5 d6 d7 HD1)
      |(go_at_call 64;refine (HD2 _ _ (by first|exact hw2|exact hw0|rfl) hB2).mono ?_;rintro e w3 ⟨rfl,hb3⟩;have f6:=cell_since hb3 e6;have f7:=cell_since hb3 e7;have f0:=cell_since hb3 e0;have f5:=cell_since hb3 e5;clear e0 e5 e6 e7 HD2))
     have hR3:Hid (Below w.heap.size w w3):=Lib.hid ((hR.trans (lower_below hb2 hR.size)).trans (lower_below hb3 (Nat.le_trans hR.size hb2.size)))
     clear hb2 hb3 hB2 hBd f6 f7
     have hw:IntKind.i64.wrap (x+y)=x+y:=IntWalk.i64_in _ (by omega)
     try rw [hw]
     have hV:(if 1000<x+y then 1000 else x+y)=mm:=by rw [show mm=_ from hmm];split<;> omega
     rw [hV]
     clear hV hw hw0 hw1 hw2 hmm
     have g0:=f0
     have g5:=f5
     replace hnn:=Lib.hid hnn
     by_cases k1000:1000<s.k
     ·obtain rfl:kk=1000:=by rw [show kk=_ from hkk];omega
      have hnE:n+nn=n+1+mm * 1000:=by rw [show nn=_ from hnn];omega
      have HN:Hid (Al.goW (Al.workF d) (l.drop (i+1)) (n+1+mm * 1000)=R/\Below w.heap.size w w3):=show _/\_ from⟨by rw [<-hnE];exact hgo,hR3⟩
      clear hnE
      go_wp2_with fail
      go_roundg k1
      case measure=>omega
      case rel=>exact⟨i+1,n+1+mm * 1000,by simp,rfl,by omega,by omega,by omega,by omega,HN⟩
     by_cases kone:s.k<1
     ·obtain rfl:kk=1:=by rw [show kk=_ from hkk];omega
      have hnE:n+nn=n+1+mm:=by rw [show nn=_ from hnn];omega
      have HN:Hid (Al.goW (Al.workF d) (l.drop (i+1)) (n+1+mm)=R/\Below w.heap.size w w3):=show _/\_ from⟨by rw [<-hnE];exact hgo,hR3⟩
      clear hnE
      go_wp2_with fail
      go_roundg k1
      case measure=>omega
      case rel=>exact⟨i+1,n+1+mm,by simp,rfl,by omega,by omega,by omega,by omega,HN⟩
     obtain rfl:kk=s.k:=by rw [show kk=_ from hkk];omega
     have kw2:wrap64 (mm * s.k)=mm * s.k:=by unfold wrap64;omega
     have kw3:wrap64 (n+1+mm * s.k)=n+1+mm * s.k:=by unfold wrap64;omega
     have hnE:n+nn=n+1+mm * s.k:=by rw [show nn=_ from hnn];omega
     have HN:Hid (Al.goW (Al.workF d) (l.drop (i+1)) (n+1+mm * s.k)=R/\Below w.heap.size w w3):=show _/\_ from⟨by rw [<-hnE];exact hgo,hR3⟩
     clear hnE
     go_wp2_with fail
     go_roundg k1
     case measure=>omega
     case rel=>exact⟨i+1,n+1+mm * s.k,by simp,rfl,by omega,by omega,by omega,by omega,HN⟩
    have q15:(s.op == 15)=false:=beq_false_of_ne p15
    by_cases p16:s.op=16
    ·have q16:(s.op == 16)=true:=by rw [p16];rfl
     rw [if_pos (.inr p16)] at hnn
     clear p7 p15 p16
     clear HR
     go_wp2_with fail
     go_region_held3 (fun w'=>w'.cell? ⟨(ad.add (i * 8)).block,(ad.add (i * 8)).off+6,none⟩=some (.slice A6 s.body.length c6)/\w'.cell? ⟨(ad.add (i * 8)).block,(ad.add (i * 8)).off+7,none⟩=some (.slice A7 s.els.length c7)) ((constructor<;> assumption)) (first
      |(go_at_call 64;refine (HD1 _ _ (by first|exact hw2|exact hw0|rfl) hBd).mono ?_;rintro e w2 ⟨rfl,hb2⟩;replace hb2:=undrew hb2;have hB2:=hB1.trans (lower_below hb2 hB1.size);have e6:=cell_since hb2 d6;have e7:=cell_since hb2 d7;have e0:=cell_since hb2 d0;have e5:=cell_since hb2 d5;clear d0 d5 d6 d7 HD1)
      |(go_at_call 64;refine (HD2 _ _ (by first|exact hw2|exact hw0|rfl) hB2).mono ?_;rintro e w3 ⟨rfl,hb3⟩;have f6:=cell_since hb3 e6;have f7:=cell_since hb3 e7;have f0:=cell_since hb3 e0;have f5:=cell_since hb3 e5;clear e0 e5 e6 e7 HD2))
     have hR3:Hid (Below w.heap.size w w3):=Lib.hid ((hR.trans (lower_below hb2 hR.size)).trans (lower_below hb3 (Nat.le_trans hR.size hb2.size)))
     clear hb2 hb3 hB2 hBd f6 f7
     have hw:IntKind.i64.wrap (x+y)=x+y:=IntWalk.i64_in _ (by omega)
     try rw [hw]
     have hV:(if 1000<x+y then 1000 else x+y)=mm:=by rw [show mm=_ from hmm];split<;> omega
     rw [hV]
     clear hV hw hw0 hw1 hw2 hmm
     have g0:=f0
     have g5:=f5
     replace hnn:=Lib.hid hnn
     by_cases k1000:1000<s.k
     ·obtain rfl:kk=1000:=by rw [show kk=_ from hkk];omega
      have hnE:n+nn=n+1+mm * 1000:=by rw [show nn=_ from hnn];omega
      have HN:Hid (Al.goW (Al.workF d) (l.drop (i+1)) (n+1+mm * 1000)=R/\Below w.heap.size w w3):=show _/\_ from⟨by rw [<-hnE];exact hgo,hR3⟩
      clear hnE
      go_wp2_with fail
      go_roundg k1
      case measure=>omega
      case rel=>exact⟨i+1,n+1+mm * 1000,by simp,rfl,by omega,by omega,by omega,by omega,HN⟩
     by_cases kone:s.k<1
     ·obtain rfl:kk=1:=by rw [show kk=_ from hkk];omega
      have hnE:n+nn=n+1+mm:=by rw [show nn=_ from hnn];omega
      have HN:Hid (Al.goW (Al.workF d) (l.drop (i+1)) (n+1+mm)=R/\Below w.heap.size w w3):=show _/\_ from⟨by rw [<-hnE];exact hgo,hR3⟩
      clear hnE
      go_wp2_with fail
      go_roundg k1
      case measure=>omega
      case rel=>exact⟨i+1,n+1+mm,by simp,rfl,by omega,by omega,by omega,by omega,HN⟩
     obtain rfl:kk=s.k:=by rw [show kk=_ from hkk];omega
     have kw2:wrap64 (mm * s.k)=mm * s.k:=by unfold wrap64;omega
     have kw3:wrap64 (n+1+mm * s.k)=n+1+mm * s.k:=by unfold wrap64;omega
     have hnE:n+nn=n+1+mm * s.k:=by rw [show nn=_ from hnn];omega
     have HN:Hid (Al.goW (Al.workF d) (l.drop (i+1)) (n+1+mm * s.k)=R/\Below w.heap.size w w3):=show _/\_ from⟨by rw [<-hnE];exact hgo,hR3⟩
     clear hnE
     go_wp2_with fail
     go_roundg k1
     case measure=>omega
     case rel=>exact⟨i+1,n+1+mm * s.k,by simp,rfl,by omega,by omega,by omega,by omega,HN⟩
    have q16:(s.op == 16)=false:=beq_false_of_ne p16
    rw [if_neg (by omega)] at hnn
    clear p7 p15 p16
    clear HR
    go_wp2_with fail
    go_region_held3 (fun w'=>w'.cell? ⟨(ad.add (i * 8)).block,(ad.add (i * 8)).off+6,none⟩=some (.slice A6 s.body.length c6)/\w'.cell? ⟨(ad.add (i * 8)).block,(ad.add (i * 8)).off+7,none⟩=some (.slice A7 s.els.length c7)) ((constructor<;> assumption)) (first
     |(go_at_call 64;refine (HD1 _ _ (by first|exact hw2|exact hw0|rfl) hBd).mono ?_;rintro e w2 ⟨rfl,hb2⟩;replace hb2:=undrew hb2;have hB2:=hB1.trans (lower_below hb2 hB1.size);have e6:=cell_since hb2 d6;have e7:=cell_since hb2 d7;have e0:=cell_since hb2 d0;have e5:=cell_since hb2 d5;clear d0 d5 d6 d7 HD1)
     |(go_at_call 64;refine (HD2 _ _ (by first|exact hw2|exact hw0|rfl) hB2).mono ?_;rintro e w3 ⟨rfl,hb3⟩;have f6:=cell_since hb3 e6;have f7:=cell_since hb3 e7;have f0:=cell_since hb3 e0;have f5:=cell_since hb3 e5;clear e0 e5 e6 e7 HD2))
    have hR3:Hid (Below w.heap.size w w3):=Lib.hid ((hR.trans (lower_below hb2 hR.size)).trans (lower_below hb3 (Nat.le_trans hR.size hb2.size)))
    clear hb2 hb3 hB2 hBd f6 f7
    have hw:IntKind.i64.wrap (x+y)=x+y:=IntWalk.i64_in _ (by omega)
    try rw [hw]
    have hV:(if 1000<x+y then 1000 else x+y)=mm:=by rw [show mm=_ from hmm];split<;> omega
    rw [hV]
    clear hV hw hw0 hw1 hw2 hmm
    have g0:=f0
    have g5:=f5
    replace hnn:=Lib.hid hnn
    have hnE:n+nn=n+1+mm:=by rw [show nn=_ from hnn];omega
    have HN:Hid (Al.goW (Al.workF d) (l.drop (i+1)) (n+1+mm)=R/\Below w.heap.size w w3):=show _/\_ from⟨by rw [<-hnE];exact hgo,hR3⟩
    clear hnE
    go_wp2_with fail
    go_roundg k1
    case measure=>omega
    case rel=>exact⟨i+1,n+1+mm,by simp,rfl,by omega,by omega,by omega,by omega,HN⟩
   ·rw [if_neg hn] at hgo
    have r3:decide (n<1000)=false:=decide_eq_false hn
    have hmin:min R 1000=1000:=by omega
    replace hmin:=Lib.hid hmin
    clear hgo
    by_cases hc:1000<n
    ·go_wp2_with fail
     exact bodyPost_ret (v:= .int .i64 1000) (by simp [results,Tryz.results64,go_sem]) rfl ⟨by rw [show min R 1000=1000 from hmin],hR⟩
    ·obtain rfl:n=1000:=by omega
     go_wp2_with fail
     exact bodyPost_ret (v:= .int .i64 1000) (by simp [results,Tryz.results64,go_sem]) rfl ⟨by rw [show min R 1000=1000 from hmin],hR⟩
  ·have hie:i=l.length:=by omega
   have r2:decide ((i:Int)<(l.length:Int))=false:=by simp;omega
   rw [hie,List.drop_length] at hgo
   have hRn:n=R:=hgo
   clear hgo
   by_cases hc:1000<n
   ·have hmin:min R 1000=1000:=by omega
    replace hmin:=Lib.hid hmin
    clear hRn
    go_wp2_with fail
    exact bodyPost_ret (v:= .int .i64 1000) (by simp [results,Tryz.results64,go_sem]) rfl ⟨by rw [show min R 1000=1000 from hmin],hR⟩
   ·have hmin:min R 1000=n:=by omega
    replace hmin:=Lib.hid hmin
    clear hRn
    go_wp2_with fail
    exact bodyPost_ret (v:= .int .i64 n) (by simp [results,Tryz.results64,go_sem]) rfl ⟨by rw [show min R 1000=n from hmin],hR⟩
theorem work_all {W0:World}:∀ (d:Nat),d<=1000->WorkMC W0 d
 |0,_=>work_neg
 |d+1,h=>work_step (by omega) (work_all d (by omega))
mutual
theorem sub_stmt:∀ (t s:Al.Stmt),s∈Al.flatS t->(Al.flatL s.body).length<=(Al.flatS t).length/\(Al.flatL s.els).length<=(Al.flatS t).length
 |⟨op,d,a,b,c,k,body,els⟩,s,h=>by
  simp only [Al.flatS,List.mem_cons,List.mem_append,List.length_cons,List.length_append] at h ⊢
  rcases h with rfl|h|h
  ·simp only;omega
  ·have:=sub_list body s h;omega
  ·have:=sub_list els s h;omega
theorem sub_list:∀ (l:List Al.Stmt) (s:Al.Stmt),s∈Al.flatL l->(Al.flatL s.body).length<=(Al.flatL l).length/\(Al.flatL s.els).length<=(Al.flatL l).length
 |[],s,h=>by simp [Al.flatL] at h
 |t :: l,s,h=>by
  simp only [Al.flatL,List.mem_append,List.length_append] at h ⊢
  rcases h with h|h
  ·have:=sub_stmt t s h;omega
  ·have:=sub_list l s h;omega
end
def lightF (p:Al.Prog):Bool:=decide (p.n<=16) && (decide (p.vars.length<=20) && (flatOk 13 p.body && decide (Al.workF 13 p.body<=400)))
theorem light_prog {w:World}{p:Al.Prog}{Va Ab:Option Addr}{vc cb:Nat}(hp:PLies w p Va Ab vc cb):
  Calls Tryz.prog 32 #[progV p Va Ab vc cb,.int .i64 16,.int .i64 30] w fun e w'=>e= .returned (.bool (lightF p))/\Below w.heap.size w w':=by
 obtain⟨R,hR⟩:∃ R,R=lightF p:=⟨_,rfl⟩
 rw [<-hR]
 unfold lightF at hR
 obtain⟨W,hW⟩:∃ W,W=w.alloc (.cells #[.int .i64 p.q,.int .i64 p.n,.slice Va p.vars.length vc,.slice Ab p.body.length cb] 27):=⟨_,rfl⟩
 obtain⟨kp,hkp⟩:∃ kp,kp=w.heap.size:=⟨_,rfl⟩
 have hb0:Below w.heap.size w W:=by rw [hW];exact (Below.refl _ _).alloc (Nat.le_refl _) _
 have P0:PBox W kp p Va Ab vc cb:=by rw [hW,hkp];exact heap_alloc_new w _
 have hkl:kp<W.heap.size:=blk_lt P0
 have HFl:=flatm_all (W0:=w) 13 (by omega) p.body Ab cb 12 (by omega) hp.b W hb0
 obtain⟨p0,p1,p2,p3⟩:=P0.cells
 by_cases c0:(16:Int)<p.n
 ·have t0:decide ((16:Int)<p.n)=true:=decide_eq_true c0
  have hRv:=Lib.hid (show R=false by rw [hR,decide_eq_false (by omega)];rfl)
  clear hR
  go_enter Tryz.func32,Tryz.ntmps32
  unfold progV
  go_wp2_with fail
  rw [<-hW]
  exact bodyPost_ret (v:= .bool false) (by simp [results,Tryz.results32,go_sem]) rfl ⟨by rw [show R=false from hRv],hb0⟩
 have t0:decide ((16:Int)<p.n)=false:=decide_eq_false c0
 rw [decide_eq_true (show p.n<=16 by omega),Bool.true_and] at hR
 by_cases c1:(20:Int)<p.vars.length
 ·have t1:decide ((20:Int)<(p.vars.length:Int))=true:=decide_eq_true c1
  have hRv:=Lib.hid (show R=false by rw [hR,decide_eq_false (by omega)];rfl)
  clear hR
  go_enter Tryz.func32,Tryz.ntmps32
  unfold progV
  go_wp2_with fail
  rw [<-hW]
  exact bodyPost_ret (v:= .bool false) (by simp [results,Tryz.results32,go_sem]) rfl ⟨by rw [show R=false from hRv],hb0⟩
 have t1:decide ((20:Int)<(p.vars.length:Int))=false:=decide_eq_false c1
 rw [decide_eq_true (show p.vars.length<=20 by omega),Bool.true_and] at hR
 have hlen:flatOk 13 p.body=true->(Al.flatL p.body).length<=30:=flatOk_len
 obtain⟨ok,hok⟩:∃ ok,ok=flatOk 13 p.body:=⟨_,rfl⟩
 rw [<-hok] at HFl hR hlen
 replace hok:=Lib.hid hok
 have hR':=Lib.hid hR
 clear hR
 go_enter Tryz.func32,Tryz.ntmps32
 unfold progV
 go_wp2_with fail
 have hR:=show R=_ from hR'
 rw [<-hW]
 simp only [<-hkp]
 replace hkp:=Lib.hid hkp
 clear hW
 cases ok
 ·have hRv:=Lib.hid (show R=false by rw [hR];rfl)
  clear hR hlen
  go_wp2_with (first|(go_at_call 63;refine HFl.mono ?_;rintro e w1 ⟨v,rfl,_,hb1⟩))
  exact bodyPost_ret (v:= .bool false) (by simp [results,Tryz.results32,go_sem]) rfl ⟨by rw [show R=false from hRv],hb0.trans (lower_below hb1 hb0.size)⟩
 ·have h30:=hlen rfl
  rw [Bool.true_and] at hR
  have hb30:=flatL_len p.body
  have hsub:∀ s∈Al.flatL p.body,s.body.length<=1000000000/\s.els.length<=1000000000:=fun s hs=>by
   have h1:=sub_list p.body s hs
   have h2:=flatL_len s.body
   have h3:=flatL_len s.els
   omega
  have HW:=fun w1 hb=>work_all (W0:=w) 13 (by omega) p.body Ab cb 12 (by omega) hp.b (by omega) hsub w1 hb
  clear hsub hlen
  obtain⟨wk,hwk⟩:∃ wk,wk=Al.workF 13 p.body:=⟨_,rfl⟩
  rw [<-hwk] at HW hR
  replace hwk:=Lib.hid hwk
  obtain⟨nf,hnf⟩:∃ nf,nf=(Al.flatL p.body).length:=⟨_,rfl⟩
  have t4:decide ((nf:Int)<=30)=true:=decide_eq_true (by omega)
  have hnf':=Lib.hid hnf
  replace hR:=Lib.hid hR
  rw [<-hnf] at h30 hb30
  clear hnf
  cases hwd:decide (wk<=400)
  all_goals
   have hRv:=Lib.hid ((show R=_ from hR).trans hwd)
   clear hR
   go_wp2_with (first
    |(go_at_call 63;refine HFl.mono ?_;rintro e w1 ⟨v,rfl,hrow,hb1⟩;obtain⟨cs1,hown1,_⟩:=hrow (by trivial);obtain⟨a1,c1',rfl⟩:=own_slice hown1;rw [<-(show nf=_ from hnf')];have P1:PBox w1 kp p Va Ab vc cb:=below_blk hb1 P0 hkl;have hb2:=hb0.trans (lower_below hb1 hb0.size);have q3:=P1.cells.2.2.2;clear hrow hown1)
    |(go_at_call 64;refine (HW w1 hb2).mono ?_;rintro e w2 ⟨rfl,hb3⟩))
  ·exact bodyPost_ret (v:= .bool false) (by simp [results,Tryz.results32,go_sem]) rfl ⟨by rw [show R=false from hRv],hb2.trans (lower_below hb3 hb2.size)⟩
  ·exact bodyPost_ret (v:= .bool true) (by simp [results,Tryz.results32,go_sem]) rfl ⟨by rw [show R=true from hRv],hb2.trans (lower_below hb3 hb2.size)⟩
theorem light_any {w:World}{p:Al.Prog}{Va Ab:Option Addr}{vc cb:Nat}(hp:PLies w p Va Ab vc cb)(Ia Ta:Option Addr)(ni ic nt tc:Nat):
  Calls Tryz.prog 8 #[progV p Va Ab vc cb,.slice Ia ni ic,.slice Ta nt tc] w fun e w'=>e= .returned (.bool (lightF p && (decide (ni<=14) && decide (nt<=200))))/\Below w.heap.size w w':=by
 obtain⟨R,hR⟩:∃ R,R=(lightF p && (decide (ni<=14) && decide (nt<=200))):=⟨_,rfl⟩
 rw [<-hR]
 obtain⟨W,hW⟩:∃ W,W=w.alloc (.cells #[.int .i64 p.q,.int .i64 p.n,.slice Va p.vars.length vc,.slice Ab p.body.length cb] 27):=⟨_,rfl⟩
 have hb0:Below w.heap.size w W:=by rw [hW];exact (Below.refl _ _).alloc (Nat.le_refl _) _
 obtain⟨kp,hkp⟩:∃ kp,kp=w.heap.size:=⟨_,rfl⟩
 have P0:PBox W kp p Va Ab vc cb:=by rw [hW,hkp];exact heap_alloc_new w _
 have HL:=light_prog (hp.below hb0)
 obtain⟨li,hli⟩:∃ li,li=lightF p:=⟨_,rfl⟩
 rw [<-hli] at HL hR
 clear hli
 obtain⟨p0,p1,p2,p3⟩:=P0.cells
 unfold progV at HL
 go_enter Tryz.func8,Tryz.ntmps8
 unfold progV
 go_wp2_with fail
 rw [<-hW]
 simp only [<-hkp]
 replace hkp:=Lib.hid hkp
 clear hW
 cases li
 ·have hRv:=Lib.hid (show R=false by rw [hR];rfl)
  clear hR
  go_wp2_with (first|(go_at_call 32;refine HL.mono ?_;rintro e w1 ⟨rfl,hb1⟩))
  exact bodyPost_ret (v:= .bool false) (by simp [results,Tryz.results8,go_sem]) rfl ⟨by rw [show R=false from hRv],hb0.trans (lower_below hb1 hb0.size)⟩
 ·rw [Bool.true_and] at hR
  by_cases c0:ni<=14
  ·have t0:decide ((ni:Int)<=14)=true:=decide_eq_true (by omega)
   rw [decide_eq_true c0,Bool.true_and] at hR
   by_cases c1:nt<=200
   ·have t1:decide ((nt:Int)<=200)=true:=decide_eq_true (by omega)
    have hRv:=Lib.hid (show R=true by rw [hR,decide_eq_true c1])
    clear hR
    go_wp2_with (first|(go_at_call 32;refine HL.mono ?_;rintro e w1 ⟨rfl,hb1⟩))
    exact bodyPost_ret (v:= .bool true) (by simp [results,Tryz.results8,go_sem]) rfl ⟨by rw [show R=true from hRv],hb0.trans (lower_below hb1 hb0.size)⟩
   ·have t1:decide ((nt:Int)<=200)=false:=decide_eq_false (by omega)
    have hRv:=Lib.hid (show R=false by rw [hR,decide_eq_false c1])
    clear hR
    go_wp2_with (first|(go_at_call 32;refine HL.mono ?_;rintro e w1 ⟨rfl,hb1⟩))
    exact bodyPost_ret (v:= .bool false) (by simp [results,Tryz.results8,go_sem]) rfl ⟨by rw [show R=false from hRv],hb0.trans (lower_below hb1 hb0.size)⟩
  ·have t0:decide ((ni:Int)<=14)=false:=decide_eq_false (by omega)
   have hRv:=Lib.hid (show R=false by rw [hR,decide_eq_false c0];rfl)
   clear hR
   go_wp2_with (first|(go_at_call 32;refine HL.mono ?_;rintro e w1 ⟨rfl,hb1⟩))
   exact bodyPost_ret (v:= .bool false) (by simp [results,Tryz.results8,go_sem]) rfl ⟨by rw [show R=false from hRv],hb0.trans (lower_below hb1 hb0.size)⟩
theorem ref_place (w:World)(p:Al.Prog)(Va Ab:Option Addr)(vc cb:Nat)(v:Int)(hv:0<=v/\v<=1000)(hn:0<=p.n/\p.n<=1000):
  Calls Tryz.prog 27 #[progV p Va Ab vc cb,.int .i64 v] w fun e w'=>e= .returned (.int .i64 (Al.placeF p v))/\Below w.heap.size w w':=by
 have hb0:Below w.heap.size w (w.alloc (.cells #[.int .i64 p.q,.int .i64 p.n,.slice Va p.vars.length vc,.slice Ab p.body.length cb] 27)):=(Below.refl _ _).alloc (Nat.le_refl _) _
 obtain⟨R,hR⟩:∃ R,R=Al.placeF p v:=⟨_,rfl⟩
 have h0:0<=v * p.n:=Int.mul_nonneg hv.1 hn.1
 have h1:v * p.n<=1000 * 1000:=Int.mul_le_mul hv.2 hn.2 hn.1 (by omega)
 have k1:wrap64 (v * p.n)=v * p.n:=by unfold wrap64;omega
 have k2:wrap64 (2+v * p.n)=2+v * p.n:=by unfold wrap64;omega
 have hE:Al.placeF p v=2+v * p.n:=rfl
 rw [hE]
 clear hE hR R
 go_enter Tryz.func27,Tryz.ntmps27
 unfold progV
 go_wp2_with fail
 exact bodyPost_ret (v:= .int .i64 (2+v * p.n)) (by simp [results,Tryz.results27,go_sem]) rfl ⟨rfl,hb0⟩
theorem ref_tape (w:World)(p:Al.Prog)(Va Ab:Option Addr)(vc cb:Nat)(hv:p.vars.length<=1000)(hn:0<=p.n/\p.n<=1000):
  Calls Tryz.prog 24 #[progV p Va Ab vc cb] w fun e w'=>e= .returned (.int .i64 (Al.endF p))/\Below w.heap.size w w':=by
 have hb0:Below w.heap.size w (w.alloc (.cells #[.int .i64 p.q,.int .i64 p.n,.slice Va p.vars.length vc,.slice Ab p.body.length cb] 27)):=(Below.refl _ _).alloc (Nat.le_refl _) _
 have h0:0<=(p.vars.length:Int) * p.n:=Int.mul_nonneg (by omega) hn.1
 have h1:(p.vars.length:Int) * p.n<=1000 * 1000:=Int.mul_le_mul (by omega) hn.2 hn.1 (by omega)
 have k1:wrap64 ((p.vars.length:Int) * p.n)=(p.vars.length:Int) * p.n:=by unfold wrap64;omega
 have k2:wrap64 (2+(p.vars.length:Int) * p.n)=2+(p.vars.length:Int) * p.n:=by unfold wrap64;omega
 have hE:Al.endF p=2+p.vars.length * p.n:=rfl
 rw [hE]
 clear hE
 go_enter Tryz.func24,Tryz.ntmps24
 unfold progV
 go_wp2_with fail
 exact bodyPost_ret (v:= .int .i64 (2+(p.vars.length:Int) * p.n)) (by simp [results,Tryz.results24,go_sem]) rfl ⟨rfl,hb0⟩
theorem row_one (w:World){base:Nat}(hb:base<=w.heap.size)(x:Value)(e:TypeId):(w.alloc (.cells #[x] e)).ownsRow base e 1 (.slice (some ⟨w.heap.size,0,none⟩) 1 1) 1 [x]:=
 ⟨rfl,.inr ⟨w.heap.size,1,_,rfl,hb,heap_alloc_new _ _,by omega,by unfold maxLen;omega,rfl,rfl⟩⟩
theorem kindsFrom_snoc:∀ (l:List Al.Var) (v:Al.Var) (k i:Int),Al.kindsFrom (l++[v]) k i=Al.kindsFrom l k i++(if v.kind=k then [i+l.length] else [])
 |[],v,k,i=>by simp only [List.nil_append,Al.kindsFrom,List.length_nil];split<;> simp
 |x :: l,v,k,i=>by
  simp only [List.cons_append,Al.kindsFrom,kindsFrom_snoc l v k (i+1),List.length_cons]
  have e:i+1+(l.length:Int)=i+((l.length+1:Nat):Int):=by omega
  rw [e]
  split<;> simp
theorem kindsFrom_len:∀ (l:List Al.Var) (k i:Int),(Al.kindsFrom l k i).length<=l.length
 |[],k,i=>by simp [Al.kindsFrom]
 |x :: l,k,i=>by simp only [Al.kindsFrom,List.length_cons];have:=kindsFrom_len l k (i+1);split<;> (try simp only [List.length_cons])<;> omega
theorem own_one {base:Nat}{e:TypeId}{w:World}{v:Value}{n:Nat}{xs:List Value}(h:w.ownsRow base e 1 v n xs):xs.length=n:=by have:=h.1;omega
theorem ref_kinds {w:World}{q n:Int}{vars:List Al.Var}{Va:Option Addr}{vc:Nat}(A6:Option Addr)(n6 c6:Nat)(hv:kVar.C w Va vars.length vars)(hvl:vars.length<=1000)(k:Int):
  Calls Tryz.prog 33 #[.agg #[.int .i64 q,.int .i64 n,.slice Va vars.length vc,.slice A6 n6 c6],.int .i64 k] w fun e w'=>∃ v,e= .returned v/\w'.ownsRow w.heap.size 3 1 v (Al.kindsOf vars k).length (intsV (Al.kindsOf vars k))/\Below w.heap.size w w':=by
 obtain⟨W,hW⟩:∃ W,W=w.alloc (.cells #[.int .i64 q,.int .i64 n,.slice Va vars.length vc,.slice A6 n6 c6] 27):=⟨_,rfl⟩
 have hb0:Below w.heap.size w W:=by rw [hW];exact (Below.refl _ _).alloc (Nat.le_refl _) _
 have h0:W.heap[w.heap.size]?=some (.cells #[.int .i64 q,.int .i64 n,.slice Va vars.length vc,.slice A6 n6 c6] 27 (0,0)):=by rw [hW];exact heap_alloc_new w _
 obtain⟨j0,hj0,jz0,jz1,jz2⟩:=info_parts Tryz.infoInt
 obtain⟨K,hK⟩:∃ K,K=Al.kindsOf vars k:=⟨_,rfl⟩
 rw [<-hK]
 replace hK:=Lib.hid hK
 have HV:=Lib.hid hv
 have H0:=Lib.hid h0
 have HB0:=Lib.hid hb0
 go_enter Tryz.func33,Tryz.ntmps33
 go_wp2_with fail
 rw [<-hW]
 clear hW hv h0 hb0
 go_loopg [5,6] (vars.length+1) (fun gk v5 v6 w'=>∃ i:Nat,v6= .int .i64 i/\i+gk=vars.length+1/\i<=vars.length/\Hid (w'.ownsRow w.heap.size 3 1 v5 (Al.kindsFrom (vars.take i) k 0).length (intsV (Al.kindsFrom (vars.take i) k 0))/\Below w.heap.size w w'/\w'.heap[w.heap.size]?=some (.cells #[.int .i64 q,.int .i64 n,.slice Va vars.length vc,.slice A6 n6 c6] 27 (0,0))))
 case atStart=>exact⟨0,rfl,by omega,by omega,show _/\_ from⟨World.ownsRow_nil _ _ _ _,HB0,H0⟩⟩
 case round=>
  obtain⟨i,rfl,hg,hi2,HR⟩:=hrel
  obtain⟨hown,hR,hbox⟩:=show wr.ownsRow w.heap.size 3 1 u5 (Al.kindsFrom (vars.take i) k 0).length (intsV (Al.kindsFrom (vars.take i) k 0))/\Below w.heap.size w wr/\wr.heap[w.heap.size]?=some (.cells #[.int .i64 q,.int .i64 n,.slice Va vars.length vc,.slice A6 n6 c6] 27 (0,0)) from HR
  obtain⟨kp,hkp⟩:∃ kp,kp=w.heap.size:=⟨_,rfl⟩
  have p2:wr.cell? ⟨w.heap.size,2,none⟩=some (.slice Va vars.length vc):=(cell_blk hbox _).trans rfl
  by_cases hil:i<vars.length
  ·obtain⟨k1,rfl⟩:∃ k1,gk=k1+1:=⟨gk - 1,by omega⟩
   obtain⟨ad,hVa,d0,_⟩:=at_T901 (show kVar.C w Va vars.length vars from HV) (i:Int) (by omega) (by omega)
   replace d0:=cell_since hR d0
   rw [hVa] at p2
   replace hVa:=Lib.hid hVa
   simp only [Int.toNat_natCast] at d0
   obtain⟨x,hx⟩:∃ x,x=(rd_T901 vars (i:Int)).kind:=⟨_,rfl⟩
   rw [<-hx] at d0
   have hnx:Al.kindsFrom (vars.take (i+1)) k 0=Al.kindsFrom (vars.take i) k 0++(if x=k then [(i:Int)] else []):=by
    rw [List.take_succ_eq_append_getElem hil,kindsFrom_snoc,List.length_take,Nat.min_eq_left (by omega),hx,rd_var vars i hil];simp
   replace hx:=Lib.hid hx
   have hkl:(Al.kindsFrom (vars.take i) k 0).length<=1000:=by have:=kindsFrom_len (vars.take i) k 0;have:=List.length_take_le i vars;omega
   have r0:(0:Int)<=(i:Int):=by omega
   have r1:(i:Int)<(vars.length:Int):=by omega
   have r2:decide ((i:Int)<(vars.length:Int))=true:=decide_eq_true r1
   clear HR hkp
   by_cases hxk:x=k
   ·have z:(x == k)=true:=by rw [hxk];exact beq_self_eq_true _
    rw [if_pos hxk] at hnx
    clear hxk
    obtain⟨L,hL⟩:∃ L,L=Al.kindsFrom (vars.take i) k 0:=⟨_,rfl⟩
    rw [<-hL] at hown hnx hkl
    replace hL:=Lib.hid hL
    replace hnx:=Lib.hid hnx
    have own1:=hown.alloc (.cells #[.int .i64 i] 3)
    have src1:=row_one wr hR.size (.int .i64 i) 3
    have bl1:Below w.heap.size w (wr.alloc (.cells #[.int .i64 i] 3)):=hR.alloc hR.size _
    have bx1:=alloc_blk (.cells #[.int .i64 i] 3) hbox
    have hne:=own_ne_blk own1 bx1 (by decide)
    go_wp2_with (first
     |(at_builtin;refine append_row rfl (.tmp 22) (.tmp 24) 86 rfl w.heap.size 3 j0 _ 1 8 Tryz.underlying86 hj0 jz0 jz1 jz2 rfl (by omega) _ _ _ rfl own1 w.heap.size _ _ _ rfl src1 (by intro u hu;rw [List.mem_singleton.1 hu];rfl) (by unfold maxLen;omega) (by omega) (by have:=hR.size;simp;omega) ?_;intro v1 w1 hown1 hgrow1;have hb1:=below_grown2 bl1 hgrow1 (fun k hk=>(own1.lt k hk).1) (by have:=hR.size;simp;omega);have hbx:w1.heap[w.heap.size]?=some (.cells #[.int .i64 q,.int .i64 n,.slice Va vars.length vc,.slice A6 n6 c6] 27 (0,0)):=by (rcases hgrow1 with rfl|hgrow1;exact bx1;exact grow_blk hgrow1 bx1 hne)))
    have HN:Hid (w1.ownsRow w.heap.size 3 1 v1 (Al.kindsFrom (vars.take (i+1)) k 0).length (intsV (Al.kindsFrom (vars.take (i+1)) k 0))/\Below w.heap.size w w1/\w1.heap[w.heap.size]?=some (.cells #[.int .i64 q,.int .i64 n,.slice Va vars.length vc,.slice A6 n6 c6] 27 (0,0))):=by
     refine show _/\_ from⟨?_,hb1,hbx⟩
     rw [show Al.kindsFrom (vars.take (i+1)) k 0=_ from hnx]
     simpa [intsV] using hown1
    clear hown1 hgrow1 hb1 hbx own1 src1 bl1 bx1 hne hown hbox
    go_roundg k1
    case measure=>omega
    case rel=>exact⟨i+1,by simp,by omega,by omega,HN⟩
   ·have z:(x == k)=false:=beq_false_of_ne hxk
    rw [if_neg hxk,List.append_nil] at hnx
    have HN:Hid (wr.ownsRow w.heap.size 3 1 u5 (Al.kindsFrom (vars.take (i+1)) k 0).length (intsV (Al.kindsFrom (vars.take (i+1)) k 0))/\Below w.heap.size w wr/\wr.heap[w.heap.size]?=some (.cells #[.int .i64 q,.int .i64 n,.slice Va vars.length vc,.slice A6 n6 c6] 27 (0,0))):=by rw [hnx];exact⟨hown,hR,hbox⟩
    clear hxk hnx hown hbox
    go_wp2_with fail
    go_roundg k1
    case measure=>omega
    case rel=>exact⟨i+1,by simp,by omega,by omega,HN⟩
  ·have hie:i=vars.length:=by omega
   have t1:decide ((i:Int)<(vars.length:Int))=false:=by simp;omega
   rw [show vars.take i=vars by rw [hie,List.take_length]] at hown
   have hKv:K=Al.kindsFrom vars k 0:=hK
   rw [<-hKv] at hown
   clear hKv HR
   go_wp2_with fail
   exact bodyPost_ret (v:=u5) (by simp [results,Tryz.results33,go_sem]) rfl ⟨_,rfl,hown,hR⟩
theorem intsC_get {w:World}{A:Option Addr}{n:Nat}{l:List Int}{kk:IntKind}(h:(Kd.int kk).C w A n l){j:Nat}(hj:j<n)(hl:j<l.length):∃ ad,A=some ad/\w.cell? (ad.add j)=some (.int kk l[j]):=by
 obtain⟨ad,c,e,_,hK,hc⟩:=Kd.C_get h 0 (j:Int) (by omega) (by omega)
 have hc0:c=[.int kk (l.getD (Int.toNat j) 0)]:=hK
 have h1:=hc 0 _ (by rw [hc0];rfl)
 refine⟨ad,e,?_⟩
 have e1:Int.toNat (j:Int) * (Kd.int kk).sz+0=j:=by show Int.toNat (j:Int) * 1+0=j;omega
 rw [e1,Int.toNat_natCast] at h1
 rw [h1]
 simp [List.getD_eq_getElem?_getD,hl]
def badN (q:Int)(x:Int):Bool:=decide (x<0\/x>=q)
theorem ref_vector {w:World}{q n:Int}{l:List Int}{A:Option Addr}{cap:Nat}(hl:(Kd.int .i64).C w A l.length l):
  Calls Tryz.prog 54 #[.agg #[.int .i64 q,.int .i64 n],.slice A l.length cap] w fun e w'=>e= .returned (.int .i64 (Al.vectorF q n l))/\Below w.heap.size w w':=by
 obtain⟨R,hR⟩:∃ R,R=Al.vectorF q n l:=⟨_,rfl⟩
 rw [<-hR]
 obtain⟨W,hW⟩:∃ W,W=w.alloc (.cells #[.int .i64 q,.int .i64 n] 23):=⟨_,rfl⟩
 have hb0:Below w.heap.size w W:=by rw [hW];exact (Below.refl _ _).alloc (Nat.le_refl _) _
 obtain⟨kp,hkp⟩:∃ kp,kp=w.heap.size:=⟨_,rfl⟩
 have h0:W.heap[kp]?=some (.cells #[.int .i64 q,.int .i64 n] 23 (0,0)):=by rw [hW,hkp];exact heap_alloc_new w _
 have hkl:=blk_lt h0
 have HV:=ref_ring W q n
 have HL:=Lib.hid hl
 clear hl
 go_enter Tryz.func54,Tryz.ntmps54
 go_wp2_with fail
 rw [<-hW]
 simp only [<-hkp]
 replace hkp:=Lib.hid hkp
 clear hW
 cases hro:Al.ringOk q n with
 |false=>
  rw [hro] at HV
  simp only [Bool.false_eq_true,if_false] at HV
  have hRv:=Lib.hid (show R=101 by rw [hR];unfold Al.vectorF;rw [hro];rfl)
  clear hR
  go_wp2_with (first|(go_at_call 84;refine HV.mono ?_;rintro e w1 ⟨rfl,hb1⟩))
  exact bodyPost_ret (v:= .int .i64 101) (by simp [results,Tryz.results54,go_sem]) rfl ⟨by rw [show R=101 from hRv],hb0.trans (lower_below hb1 hb0.size)⟩
 |true=>
  rw [hro] at HV
  simp only [if_true] at HV
  have hn:0<=n/\n<=256:=by
       have h2:Al.isSize n=true:=by (unfold Al.ringOk at hro;simp at hro;exact hro.2)
       have:=Al.size_facts h2;omega
  unfold Al.vectorF at hR
  rw [hro] at hR
  simp only [Bool.not_true,Bool.false_eq_true,if_false] at hR
  clear hro
  by_cases hln:(l.length:Int)=n
  ·rw [if_neg (by omega)] at hR
   have z:((l.length:Int) == n)=true:=by rw [hln];exact beq_self_eq_true _
   have z':((l.length:Int) !=n)=false:=by rw [hln];simp
   have hR':=Lib.hid hR
   clear hR
   have hl256:l.length<=256:=by omega
   have hlnh:=Lib.hid hln
   clear hln
   go_wp2_with (first|(go_at_call 84;refine HV.mono ?_;rintro e w1 ⟨rfl,hb1⟩;have v1:w1.cell? ⟨kp,1,none⟩=some (.int .i64 n):=(cell_blk (below_blk hb1 h0 hkl) _).trans rfl;have v0:w1.cell? ⟨kp,0,none⟩=some (.int .i64 q):=(cell_blk (below_blk hb1 h0 hkl) _).trans rfl))
   have hbb:Below w.heap.size w w1:=hb0.trans (lower_below hb1 hb0.size)
   have HI:Hid (w1.cell? ⟨kp,0,none⟩=some (.int .i64 q)/\Below w.heap.size w w1):=Lib.hid ⟨v0,hbb⟩
   clear v1 v0 hbb hb0 hb1 h0 HV hkl
   go_loopg [6] (l.length+1) (fun gk v6 w'=>∃ i:Nat,v6= .int .i64 i/\i+gk=l.length+1/\i<=l.length/\Hid ((l.take i).any (badN q)=false)/\Hid (w'.cell? ⟨kp,0,none⟩=some (.int .i64 q)/\Below w.heap.size w w'))
   case atStart=>exact⟨0,rfl,by omega,by omega,Lib.hid (by simp),HI⟩
   case round=>
    obtain⟨i,rfl,hg,hi2,HN,HW⟩:=hrel
    have hno:=show (l.take i).any (badN q)=false from HN
    obtain⟨v0,hbb⟩:=show wr.cell? ⟨kp,0,none⟩=some (.int .i64 q)/\Below w.heap.size w wr from HW
    clear HI HN HW
    by_cases hil:i<l.length
    ·obtain⟨k1,rfl⟩:∃ k1,gk=k1+1:=⟨gk - 1,by omega⟩
     obtain⟨ad,rfl,d0⟩:=intsC_get (show (Kd.int .i64).C w A l.length l from HL) hil hil
     replace d0:=cell_since hbb d0
     have hnx:(l.take (i+1)).any (badN q)=((l.take i).any (badN q) || badN q l[i]):=by rw [List.take_succ_eq_append_getElem hil,List.any_append];simp
     have hall:badN q l[i]=true->l.any (badN q)=true:=fun h=>List.any_eq_true.2 ⟨_,List.getElem_mem hil,h⟩
     obtain⟨x,hx⟩:∃ x,x=l[i]:=⟨_,rfl⟩
     rw [<-hx] at d0 hnx hall
     replace hx:=Lib.hid hx
     have r0:(0:Int)<=(i:Int):=by omega
     have r1:(i:Int)<(l.length:Int):=by omega
     have r2:decide ((i:Int)<(l.length:Int))=true:=decide_eq_true r1
     have hbd:∀ m,Below w.heap.size w (wr.drewN m):=fun m=>⟨hbb.os,hbb.tape,hbb.output,hbb.size,hbb.block⟩
     have v0d:∀ m,(wr.drewN m).cell? ⟨kp,0,none⟩=some (.int .i64 q):=fun m=>v0
     have hbad:∀ h:badN q x=true,R=101:=fun h=>by
      rw [show R=_ from hR',show (fun x=>decide (x<0\/x>=q))=badN q from rfl,hall h,if_pos rfl]
     by_cases c0:x<0
     ·have e0:decide (x<0)=true:=decide_eq_true c0
      have hRv:=Lib.hid (hbad (by unfold badN;exact decide_eq_true (.inl c0)))
      clear hall hnx hno hbad c0
      go_wp2_with fail
      go_quiet (fail)
      go_wp2_with fail
      exact bodyPost_ret (v:= .int .i64 101) (by simp [results,Tryz.results54,go_sem]) rfl ⟨by rw [show R=101 from hRv],hbd _⟩
     have e0:decide (x<0)=false:=decide_eq_false c0
     by_cases c1:q<=x
     ·have e1:decide (q<=x)=true:=decide_eq_true c1
      have hRv:=Lib.hid (hbad (by unfold badN;exact decide_eq_true (.inr c1)))
      clear hall hnx hno hbad c0 c1
      go_wp2_with fail
      go_quiet (fail)
      go_wp2_with fail
      exact bodyPost_ret (v:= .int .i64 101) (by simp [results,Tryz.results54,go_sem]) rfl ⟨by rw [show R=101 from hRv],hbd _⟩
     have e1:decide (q<=x)=false:=decide_eq_false c1
     have ho:badN q x=false:=by unfold badN;exact decide_eq_false (by omega)
     rw [hno,ho] at hnx
     have HNX:=Lib.hid hnx
     have HI2:∀ m,Hid ((wr.drewN m).cell? ⟨kp,0,none⟩=some (.int .i64 q)/\Below w.heap.size w (wr.drewN m)):=fun m=>Lib.hid ⟨v0d m,hbd m⟩
     clear hall hnx hno hbad c0 c1 ho hbd
     go_wp2_with fail
     go_quiet (fail)
     go_wp2_with fail
     go_roundg k1
     case measure=>omega
     case rel=>exact⟨i+1,by simp,by omega,by omega,HNX,HI2 _⟩
    ·have hie:i=l.length:=by omega
     have t1:decide ((i:Int)<(l.length:Int))=false:=by simp;omega
     rw [show l.take i=l by rw [hie,List.take_length]] at hno
     have hRv:=Lib.hid (show R=0 by rw [show R=_ from hR',show (fun x=>decide (x<0\/x>=q))=badN q from rfl,hno];rfl)
     clear hno
     go_wp2_with fail
     exact bodyPost_ret (v:= .int .i64 0) (by simp [results,Tryz.results54,go_sem]) rfl ⟨by rw [show R=0 from hRv],hbb⟩
  ·rw [if_pos hln] at hR
   have z:((l.length:Int) == n)=false:=beq_false_of_ne hln
   have z':((l.length:Int) !=n)=true:=by simp [hln]
   have hRv:=Lib.hid hR
   clear hR hln
   go_wp2_with (first|(go_at_call 84;refine HV.mono ?_;rintro e w1 ⟨rfl,hb1⟩;have v1:w1.cell? ⟨kp,1,none⟩=some (.int .i64 n):=(cell_blk (below_blk hb1 h0 hkl) _).trans rfl))
   exact bodyPost_ret (v:= .int .i64 102) (by simp [results,Tryz.results54,go_sem]) rfl ⟨by rw [show R=102 from hRv],hb0.trans (lower_below hb1 hb0.size)⟩
end Go.Proofs.YtkplfaionpplaaaGreatDoor
