/- Part 19: B53, B54, B55. -/
import Derived.Test.YtkplfaionpplaaaGreatDoorK18
set_option maxRecDepth 100000
set_option maxHeartbeats 6400000
set_option linter.unusedVariables false
set_option linter.unusedSimpArgs false
namespace Go.Proofs.YtkplfaionpplaaaGreatDoor
open Go.RowKit Go.Proofs.YtkplfaionpplaaaGreatDoorW.PrintWords
theorem own_apart {w:World}{b1:Nat}{e t:TypeId}{z1 z2:Nat}{v u:Value}{n m:Nat}{xs ys:List Value}{w2:World}{B:Nat}(h1:w.ownsRow b1 e z1 v n xs)(hB:B=w.heap.size)(h2:w2.ownsRow B t z2 u m ys):∀ k,u.ownBlock=some k->v.ownBlock≠some k:=
 fun k hk hv=>by have:=(h1.lt k hv).2;have:=(h2.lt k hk).1;omega
theorem own_ne_keep {w w':World}{b2:Nat}{t:TypeId}{z2:Nat}{v u:Value}{m:Nat}{ys:List Value}(h2:w.ownsRow b2 t z2 u m ys){b1:Nat}{e:TypeId}{z1 n:Nat}{xs:List Value}(h1:w.ownsRow b1 e z1 v n xs)(hg:w'=w\/w.grownBy w' v.ownBlock)(hs:∀ k,u.ownBlock=some k->v.ownBlock≠some k):w'.ownsRow b2 t z2 u m ys:=by
 rcases hg with rfl|hg
 ·exact h2
 ·exact own_of h2 fun k hk=>hg.block k (h2.lt k hk).2 (Ne.symm (hs k hk))
def flatOk:Nat->List Al.Stmt->Bool
 |0,_=>false
 |d+1,l=>decide (l.length<=30) && (l.all (fun s=>flatOk d s.body && flatOk d s.els) && decide ((Al.flatL l).length<=30))
theorem flatOk_len {d:Nat}{l:List Al.Stmt}(h:flatOk d l=true):(Al.flatL l).length<=30:=by
 cases d with
 |zero=>cases h
 |succ d=>unfold flatOk at h;simp at h;exact h.2.2
def FlatMC (W0:World)(d:Nat):Prop:=∀ (l:List Al.Stmt) (A:Option Addr) (cap:Nat) (dd:Int),dd=(d:Int) - 1->kStmt.C W0 A l.length l->∀ w,Below W0.heap.size W0 w->
 Calls Tryz.prog 63 #[.slice A l.length cap,.int .i64 30,.int .i64 dd] w fun e w'=>∃ v,e= .returned (.tuple #[v,.bool (flatOk d l)])/\(flatOk d l=true->RowS W0 w' w.heap.size v (Al.flatL l))/\Below w.heap.size w w'
theorem flatm_neg {W0:World}:FlatMC W0 0:=by
 intro l A cap dd hdd hl w hB
 obtain⟨R,hR0⟩:∃ R,R=flatOk 0 l:=⟨_,rfl⟩
 rw [<-hR0]
 have hRv:=Lib.hid (hR0.trans (show flatOk 0 l=false from rfl))
 clear hR0
 have t0:decide (dd<0)=true:=decide_eq_true (by omega)
 clear hdd
 by_cases c:(30:Int)<l.length
 ·have t1:decide ((30:Int)<(l.length:Int))=true:=decide_eq_true c
  go_enter Tryz.func63,Tryz.ntmps63
  go_wp2_with fail
  exact bodyPost_ret (v:= .tuple #[.slice none 0 0,.bool false]) (by simp [results,Tryz.results63,go_sem]) rfl ⟨_,by rw [show R=false from hRv],(fun h=>by rw [show R=false from hRv] at h;cases h),Below.refl _ _⟩
 ·have t1:decide ((30:Int)<(l.length:Int))=false:=decide_eq_false c
  go_enter Tryz.func63,Tryz.ntmps63
  go_wp2_with fail
  exact bodyPost_ret (v:= .tuple #[.slice none 0 0,.bool false]) (by simp [results,Tryz.results63,go_sem]) rfl ⟨_,by rw [show R=false from hRv],(fun h=>by rw [show R=false from hRv] at h;cases h),Below.refl _ _⟩
theorem flatm_step {W0:World}{d:Nat}(hd13:d<=1000)(hm:FlatMC W0 d):FlatMC W0 (d+1):=by
 intro l A cap dd hdd hl w hB
 obtain rfl:dd=(d:Int):=by omega
 clear hdd
 obtain⟨R,hR0⟩:∃ R,R=flatOk (d+1) l:=⟨_,rfl⟩
 rw [<-hR0]
 obtain⟨i0,hi0,iz0,iz1,iz2⟩:=info_parts Tryz.infoStmt
 have td:decide ((d:Int)<0)=false:=decide_eq_false (by omega)
 by_cases c:(30:Int)<l.length
 ·have t1:decide ((30:Int)<(l.length:Int))=true:=decide_eq_true c
  have hRv:R=false:=by rw [hR0];unfold flatOk;rw [decide_eq_false (by omega)];rfl
  replace hRv:=Lib.hid hRv
  clear hR0
  go_enter Tryz.func63,Tryz.ntmps63
  go_wp2_with fail
  exact bodyPost_ret (v:= .tuple #[.slice none 0 0,.bool false]) (by simp [results,Tryz.results63,go_sem]) rfl ⟨_,by rw [show R=false from hRv],(fun h=>by rw [show R=false from hRv] at h;cases h),Below.refl _ _⟩
 have t1:decide ((30:Int)<(l.length:Int))=false:=decide_eq_false c
 have hl30:l.length<=30:=by omega
 unfold flatOk at hR0
 rw [decide_eq_true hl30,Bool.true_and] at hR0
 have HL:=Lib.hid hl
 have HB:=Lib.hid hB
 have HR0:=Lib.hid hR0
 clear hl hB hR0
 go_enter Tryz.func63,Tryz.ntmps63
 go_wp2_with fail
 go_loopg [8,9,10,11,12,13] (l.length+1) (fun gk v8 v9 v10 v11 v12 v13 w'=>∃ i:Nat,v9= .int .i64 i/\i+gk=l.length+1/\i<=l.length/\Hid ((l.take i).all (fun s=>flatOk d s.body && flatOk d s.els)=true/\(Al.flatL (l.take i)).length<=30/\RowS W0 w' w.heap.size v8 (Al.flatL (l.take i))/\Below w.heap.size w w'))
 case atStart=>exact⟨0,rfl,by omega,by omega,show _/\_ from⟨by simp,by simp [Al.flatL],⟨[],by simpa [Al.flatL] using World.ownsRow_nil _ _ _ _,by simp [Al.flatL,CellsS]⟩,Below.refl _ _⟩⟩
 case round=>
  obtain⟨i,rfl,hg,hi2,HR⟩:=hrel
  obtain⟨hall,hle,hrow,hR⟩:=show (l.take i).all (fun s=>flatOk d s.body && flatOk d s.els)=true/\(Al.flatL (l.take i)).length<=30/\RowS W0 wr w.heap.size u8 (Al.flatL (l.take i))/\Below w.heap.size w wr from HR
  have hB:=show Below W0.heap.size W0 w from HB
  have hB1:Below W0.heap.size W0 wr:=hB.trans (lower_below hR hB.size)
  by_cases hil:i<l.length
  ·obtain⟨k1,rfl⟩:∃ k1,gk=k1+1:=⟨gk - 1,by omega⟩
   obtain⟨ad,A6,c6,A7,c7,rfl,d0,d1,d2,d3,d4,d5,d6,d7,l6,g6,l7,g7⟩:=at_T902 (show kStmt.C W0 A l.length l from HL) (i:Int) (by omega) (by omega)
   have D6:=fun w' (hb:Below W0.heap.size W0 w')=>cell_since hb d6
   have D7:=fun w' (hb:Below W0.heap.size W0 w')=>cell_since hb d7
   replace d0:=cell_since hB1 d0
   replace d1:=cell_since hB1 d1
   replace d2:=cell_since hB1 d2
   replace d3:=cell_since hB1 d3
   replace d4:=cell_since hB1 d4
   replace d5:=cell_since hB1 d5
   replace d6:=cell_since hB1 d6
   replace d7:=cell_since hB1 d7
   simp only [Int.toNat_natCast] at d0 d1 d2 d3 d4 d5 d6 d7 D6 D7
   obtain⟨s,hs⟩:∃ s,s=rd_T902 l (i:Int):=⟨_,rfl⟩
   simp only [<-hs] at d0 d1 d2 d3 d4 d5 d6 d7 l6 g6 l7 g7 D6 D7
   rw [rd_get l i hil] at hs
   have hnx:Al.flatL (l.take (i+1))=Al.flatL (l.take i)++[s]++Al.flatL s.body++Al.flatL s.els:=by
    rw [take_succ l i hil,flatL_append,flatL_one,<-hs,flatS_eq];simp
   have hall2:(l.take (i+1)).all (fun s=>flatOk d s.body && flatOk d s.els)=(flatOk d s.body && flatOk d s.els):=by
    rw [take_succ l i hil,List.all_append,hall,<-hs];simp
   have hmem:s∈l:=by rw [hs];exact List.getElem_mem _
   have hallF:(flatOk d s.body && flatOk d s.els)=false->R=false:=fun h=>by
    rw [show R=_ from HR0]
    have:l.all (fun s=>flatOk d s.body && flatOk d s.els)=false:=List.all_eq_false.2 ⟨s,hmem,by rw [h];decide⟩
    rw [this];rfl
   have hlenF:30<(Al.flatL (l.take (i+1))).length->R=false:=fun h=>by
    rw [show R=_ from HR0]
    have e:Al.flatL l=Al.flatL (l.take (i+1))++Al.flatL (l.drop (i+1)):=by rw [<-flatL_append,List.take_append_drop]
    have e2:=congrArg List.length e
    rw [List.length_append] at e2
    rw [decide_eq_false (show¬(Al.flatL l).length<=30 by omega),Bool.and_false]
   replace hs:=Lib.hid hs
   clear hmem hall
   have HD1:=fun w1=>hm s.body A6 c6 ((d:Int) - 1) rfl g6 w1
   have HD2:=fun w1=>hm s.els A7 c7 ((d:Int) - 1) rfl g7 w1
   obtain⟨F0,hF0⟩:∃ F0,F0=Al.flatL (l.take i):=⟨_,rfl⟩
   obtain⟨FB,hFB⟩:∃ FB,FB=Al.flatL s.body:=⟨_,rfl⟩
   obtain⟨FE,hFE⟩:∃ FE,FE=Al.flatL s.els:=⟨_,rfl⟩
   obtain⟨o1,ho1⟩:∃ o1,o1=flatOk d s.body:=⟨_,rfl⟩
   obtain⟨o2,ho2⟩:∃ o2,o2=flatOk d s.els:=⟨_,rfl⟩
   have hFB30:o1=true->FB.length<=30:=fun h=>by rw [hFB];exact flatOk_len (ho1.symm.trans h)
   have hFE30:o2=true->FE.length<=30:=fun h=>by rw [hFE];exact flatOk_len (ho2.symm.trans h)
   rw [<-hF0] at hrow hnx hle
   rw [<-hFB] at HD1 hnx
   rw [<-hFE] at HD2 hnx
   rw [<-ho1] at HD1 hall2 hallF
   rw [<-ho2] at HD2 hall2 hallF
   replace hF0:=Lib.hid hF0
   replace hFB:=Lib.hid hFB
   replace hFE:=Lib.hid hFE
   clear ho1 ho2
   replace hnx:=Lib.hid hnx
   replace hall2:=Lib.hid hall2
   replace hallF:=Lib.hid hallF
   replace hlenF:=Lib.hid hlenF
   have r0:(0:Int)<=(i:Int):=by omega
   have r1:(i:Int)<(l.length:Int):=by omega
   have r2:decide ((i:Int)<(l.length:Int))=true:=decide_eq_true r1
   have hw1:wrap64 ((d:Int) - 1)=(d:Int) - 1:=by unfold wrap64;omega
   have hw2:IntKind.i64.wrap ((d:Int) - 1)=(d:Int) - 1:=IntWalk.i64_in _ (by omega)
   obtain⟨cs0,hown0,hcs0⟩:=hrow
   have hsz:w.heap.size<=wr.heap.size:=hR.size
   have own1:=hown0.alloc (.cells (stmtV s (.slice A6 s.body.length c6) (.slice A7 s.els.length c7)) 66)
   have src1:(wr.alloc (.cells (stmtV s (.slice A6 s.body.length c6) (.slice A7 s.els.length c7)) 66)).ownsRow w.heap.size 66 8 (.slice (some ⟨wr.heap.size,0,none⟩) 1 1) 1 (stmtV s (.slice A6 s.body.length c6) (.slice A7 s.els.length c7)).toList:=
    ⟨rfl,.inr ⟨wr.heap.size,1,_,rfl,hsz,heap_alloc_new _ _,by omega,by unfold maxLen;omega,rfl,rfl⟩⟩
   have bl1:Below w.heap.size w (wr.alloc (.cells (stmtV s (.slice A6 s.body.length c6) (.slice A7 s.els.length c7)) 66)):=hR.alloc hsz _
   have cs1:=CellsS.single l6 g6 l7 g7
   have one1:=cs1.one
   clear HR
   unfold stmtV at own1 src1 bl1 cs1 one1
   by_cases ho:(o1 && o2)=false
   ·have hRv:=Lib.hid ((show (o1 && o2)=false->R=false from hallF) ho)
    clear hallF hall2 hlenF hFB30 hFE30
    cases o1
    ·go_wp2_with (first
    |(at_builtin;refine append_row rfl (.tmp 28) (.tmp 33) 25 rfl w.heap.size 66 i0 _ 8 96 Tryz.underlying25 hi0 iz0 iz1 iz2 rfl (by omega) _ _ _ rfl own1 w.heap.size _ _ _ rfl src1 one1 (by unfold maxLen;omega) (by omega) (by simp;omega) ?_;intro v1 w1 hown1 hgrow1;obtain⟨sa1,sc1,rfl⟩:=own_slice hown1;have hb1:=below_grown2 bl1 hgrow1 (fun k hk=>(own1.lt k hk).1) (by simp;omega);have hc1:=hcs0.append cs1;have hBB:=hB.trans (lower_below hb1 hB.size);have e6:=D6 _ hBB;clear own1 src1 bl1 d0 d1 d2 d3 d4 d5 d6 d7)
    |(go_at_call 63;refine (HD1 w1 hBB).mono ?_;rintro e w2 ⟨v2,rfl,hr2,hb2⟩;have hown2:=own_of hown1 fun k hk=>hb2.block k (hown1.lt k hk).2;have hb3:=hb1.trans (lower_below hb2 hb1.size);have hBB2:=hB.trans (lower_below hb3 hB.size);have e7:=D7 _ hBB2;clear e6 HD1)
    |(go_at_call 63;refine (HD2 w2 hBB2).mono ?_;rintro e w4 ⟨v4,rfl,hr4,hb5⟩;have hown4:=own_of hown2 fun k hk=>hb5.block k (hown2.lt k hk).2;have hb6:=hb3.trans (lower_below hb5 hb3.size);clear e7 HD2))
     exact bodyPost_ret (v:= .tuple #[.slice none 0 0,.bool false]) (by simp [results,Tryz.results63,go_sem]) rfl ⟨_,by rw [show R=false from hRv],(fun h=>by rw [show R=false from hRv] at h;cases h),hb6⟩
    ·cases o2
     ·go_wp2_with (first
    |(at_builtin;refine append_row rfl (.tmp 28) (.tmp 33) 25 rfl w.heap.size 66 i0 _ 8 96 Tryz.underlying25 hi0 iz0 iz1 iz2 rfl (by omega) _ _ _ rfl own1 w.heap.size _ _ _ rfl src1 one1 (by unfold maxLen;omega) (by omega) (by simp;omega) ?_;intro v1 w1 hown1 hgrow1;obtain⟨sa1,sc1,rfl⟩:=own_slice hown1;have hb1:=below_grown2 bl1 hgrow1 (fun k hk=>(own1.lt k hk).1) (by simp;omega);have hc1:=hcs0.append cs1;have hBB:=hB.trans (lower_below hb1 hB.size);have e6:=D6 _ hBB;clear own1 src1 bl1 d0 d1 d2 d3 d4 d5 d6 d7)
    |(go_at_call 63;refine (HD1 w1 hBB).mono ?_;rintro e w2 ⟨v2,rfl,hr2,hb2⟩;have hown2:=own_of hown1 fun k hk=>hb2.block k (hown1.lt k hk).2;have hb3:=hb1.trans (lower_below hb2 hb1.size);have hBB2:=hB.trans (lower_below hb3 hB.size);have e7:=D7 _ hBB2;clear e6 HD1)
    |(go_at_call 63;refine (HD2 w2 hBB2).mono ?_;rintro e w4 ⟨v4,rfl,hr4,hb5⟩;have hown4:=own_of hown2 fun k hk=>hb5.block k (hown2.lt k hk).2;have hb6:=hb3.trans (lower_below hb5 hb3.size);clear e7 HD2))
      exact bodyPost_ret (v:= .tuple #[.slice none 0 0,.bool false]) (by simp [results,Tryz.results63,go_sem]) rfl ⟨_,by rw [show R=false from hRv],(fun h=>by rw [show R=false from hRv] at h;cases h),hb6⟩
     ·cases ho
   obtain⟨rfl,rfl⟩:o1=true/\o2=true:=by cases o1<;> cases o2<;> simp at ho<;> exact⟨rfl,rfl⟩
   clear ho
   have hFBl:=hFB30 rfl
   have hFEl:=hFE30 rfl
   clear hFB30 hFE30
   obtain⟨n5,hn5⟩:∃ n,n=F0.length+1+FB.length+FE.length:=⟨_,rfl⟩
   have hlt:(Al.flatL (l.take (i+1))).length=n5:=by rw [show Al.flatL (l.take (i+1))=_ from hnx,hn5];simp only [List.length_append,List.length_cons,List.length_nil]
   have hn5l:n5<=91:=by omega
   replace hn5:=Lib.hid hn5
   by_cases c5:(30:Int)<n5
   ·have t5:decide ((30:Int)<(n5:Int))=true:=decide_eq_true c5
    have hRv:=Lib.hid ((show 30<(Al.flatL (l.take (i+1))).length->R=false from hlenF) (by omega))
    replace hlt:=Lib.hid hlt
    clear hlenF hallF hall2
    go_wp2_with (first
    |(at_builtin;refine append_row rfl (.tmp 28) (.tmp 33) 25 rfl w.heap.size 66 i0 _ 8 96 Tryz.underlying25 hi0 iz0 iz1 iz2 rfl (by omega) _ _ _ rfl own1 w.heap.size _ _ _ rfl src1 one1 (by unfold maxLen;omega) (by omega) (by simp;omega) ?_;intro v1 w1 hown1 hgrow1;obtain⟨sa1,sc1,rfl⟩:=own_slice hown1;have hb1:=below_grown2 bl1 hgrow1 (fun k hk=>(own1.lt k hk).1) (by simp;omega);have hc1:=hcs0.append cs1;have hBB:=hB.trans (lower_below hb1 hB.size);have e6:=D6 _ hBB;clear own1 src1 bl1 d0 d1 d2 d3 d4 d5 d6 d7)
    |(go_at_call 63;refine (HD1 w1 hBB).mono ?_;rintro e w2 ⟨v2,rfl,hr2,hb2⟩;obtain⟨cs2,ho2',hc2⟩:=hr2 (by trivial);obtain⟨sa2,sc2,rfl⟩:=own_slice ho2';have one2:=hc2.one;have hown2:=own_of hown1 fun k hk=>hb2.block k (hown1.lt k hk).2;have hb3:=hb1.trans (lower_below hb2 hb1.size);have hBB2:=hB.trans (lower_below hb3 hB.size);have e7:=D7 _ hBB2;clear e6 HD1)
    |(go_at_call 63;refine (HD2 w2 hBB2).mono ?_;rintro e w4 ⟨v4,rfl,hr4,hb5⟩;obtain⟨cs4,ho4,hc4⟩:=hr4 (by trivial);obtain⟨sa4,sc4,rfl⟩:=own_slice ho4;have one4:=hc4.one;have ho2:=own_of ho2' fun k hk=>hb5.block k (ho2'.lt k hk).2;have hown6:=own_of hown2 fun k hk=>hb5.block k (hown2.lt k hk).2;have hsep:=own_apart hown2 rfl ho4;have hb6:=hb3.trans (lower_below hb5 hb3.size);clear e7 HD2)
    |(at_builtin;refine append_row rfl (.tmp 65) (.tmp 66) 25 rfl w.heap.size 66 i0 _ 8 96 Tryz.underlying25 hi0 iz0 iz1 iz2 rfl (by omega) _ _ _ rfl hown6 w1.heap.size _ _ _ rfl ho2 one2 (by unfold maxLen;omega) (by omega) hb6.size ?_;intro v3 w3 hown3 hgrow3;have hne:=own_ne_keep ho4 hown6 hgrow3 hsep;have hb7:=below_grown2 hb6 hgrow3 (fun k hk=>(hown6.lt k hk).1) hb6.size;have hc3:=hc1.append hc2;clear ho2 hown6)
    |(at_builtin;refine append_row rfl (.tmp 67) (.tmp 68) 25 rfl w.heap.size 66 i0 _ 8 96 Tryz.underlying25 hi0 iz0 iz1 iz2 rfl (by omega) _ _ _ rfl hown3 w2.heap.size _ _ _ rfl hne one4 (by unfold maxLen;omega) (by omega) hb7.size ?_;intro v5 w5 hown5 hgrow5;have hb8:=below_grown2 hb7 hgrow5 (fun k hk=>(hown3.lt k hk).1) hb7.size;have hc5:=hc3.append hc4;obtain⟨sa5,sc5,hv5⟩:=own_slice hown5;rw [<-(show n5=_ from hn5)] at hv5 hown5;subst hv5;clear hown3 hne))
    exact bodyPost_ret (v:= .tuple #[.slice none 0 0,.bool false]) (by simp [results,Tryz.results63,go_sem]) rfl ⟨_,by rw [show R=false from hRv],(fun h=>by rw [show R=false from hRv] at h;cases h),hb8⟩
   have t5:decide ((30:Int)<(n5:Int))=false:=decide_eq_false c5
   have hle5:(Al.flatL (l.take (i+1))).length<=30:=by omega
   have hlt2:=Lib.hid hlt
   replace hle5:=Lib.hid hle5
   clear hlenF hallF hlt
   go_wp2_with (first
    |(at_builtin;refine append_row rfl (.tmp 28) (.tmp 33) 25 rfl w.heap.size 66 i0 _ 8 96 Tryz.underlying25 hi0 iz0 iz1 iz2 rfl (by omega) _ _ _ rfl own1 w.heap.size _ _ _ rfl src1 one1 (by unfold maxLen;omega) (by omega) (by simp;omega) ?_;intro v1 w1 hown1 hgrow1;obtain⟨sa1,sc1,rfl⟩:=own_slice hown1;have hb1:=below_grown2 bl1 hgrow1 (fun k hk=>(own1.lt k hk).1) (by simp;omega);have hc1:=hcs0.append cs1;have hBB:=hB.trans (lower_below hb1 hB.size);have e6:=D6 _ hBB;clear own1 src1 bl1 d0 d1 d2 d3 d4 d5 d6 d7)
    |(go_at_call 63;refine (HD1 w1 hBB).mono ?_;rintro e w2 ⟨v2,rfl,hr2,hb2⟩;obtain⟨cs2,ho2',hc2⟩:=hr2 (by trivial);obtain⟨sa2,sc2,rfl⟩:=own_slice ho2';have one2:=hc2.one;have hown2:=own_of hown1 fun k hk=>hb2.block k (hown1.lt k hk).2;have hb3:=hb1.trans (lower_below hb2 hb1.size);have hBB2:=hB.trans (lower_below hb3 hB.size);have e7:=D7 _ hBB2;clear e6 HD1)
    |(go_at_call 63;refine (HD2 w2 hBB2).mono ?_;rintro e w4 ⟨v4,rfl,hr4,hb5⟩;obtain⟨cs4,ho4,hc4⟩:=hr4 (by trivial);obtain⟨sa4,sc4,rfl⟩:=own_slice ho4;have one4:=hc4.one;have ho2:=own_of ho2' fun k hk=>hb5.block k (ho2'.lt k hk).2;have hown6:=own_of hown2 fun k hk=>hb5.block k (hown2.lt k hk).2;have hsep:=own_apart hown2 rfl ho4;have hb6:=hb3.trans (lower_below hb5 hb3.size);clear e7 HD2)
    |(at_builtin;refine append_row rfl (.tmp 65) (.tmp 66) 25 rfl w.heap.size 66 i0 _ 8 96 Tryz.underlying25 hi0 iz0 iz1 iz2 rfl (by omega) _ _ _ rfl hown6 w1.heap.size _ _ _ rfl ho2 one2 (by unfold maxLen;omega) (by omega) hb6.size ?_;intro v3 w3 hown3 hgrow3;have hne:=own_ne_keep ho4 hown6 hgrow3 hsep;have hb7:=below_grown2 hb6 hgrow3 (fun k hk=>(hown6.lt k hk).1) hb6.size;have hc3:=hc1.append hc2;clear ho2 hown6)
    |(at_builtin;refine append_row rfl (.tmp 67) (.tmp 68) 25 rfl w.heap.size 66 i0 _ 8 96 Tryz.underlying25 hi0 iz0 iz1 iz2 rfl (by omega) _ _ _ rfl hown3 w2.heap.size _ _ _ rfl hne one4 (by unfold maxLen;omega) (by omega) hb7.size ?_;intro v5 w5 hown5 hgrow5;have hb8:=below_grown2 hb7 hgrow5 (fun k hk=>(hown3.lt k hk).1) hb7.size;have hc5:=hc3.append hc4;obtain⟨sa5,sc5,hv5⟩:=own_slice hown5;rw [<-(show n5=_ from hn5)] at hv5 hown5;subst hv5;clear hown3 hne))
   have HN:Hid ((l.take (i+1)).all (fun s=>flatOk d s.body && flatOk d s.els)=true/\(Al.flatL (l.take (i+1))).length<=30/\RowS W0 w5 w.heap.size (.slice sa5 n5 sc5) (Al.flatL (l.take (i+1)))/\Below w.heap.size w w5):=by
    have hx:RowS W0 w5 w.heap.size (.slice sa5 n5 sc5) (Al.flatL (l.take (i+1))):=by
     generalize hcc:cs0++_++cs2++cs4=cs9 at hown5 hc5
     exact⟨cs9,by rw [show (Al.flatL (l.take (i+1))).length=n5 from hlt2];exact hown5,by rw [show Al.flatL (l.take (i+1))=_ from hnx];exact hc5⟩
    exact show _/\_ from⟨hall2,hle5,hx,hb8⟩
   go_roundg k1
   case measure=>omega
   case rel=>exact⟨i+1,by simp,by omega,by omega,HN⟩
  ·have hie:i=l.length:=by omega
   have t2:decide ((i:Int)<(l.length:Int))=false:=by simp;omega
   rw [show l.take i=l by rw [hie,List.take_length]] at hrow hall hle
   have hRv:R=true:=by rw [show R=_ from HR0,hall,decide_eq_true hle];rfl
   replace hRv:=Lib.hid hRv
   go_wp2_with fail
   exact bodyPost_ret (v:= .tuple #[u8,.bool true]) (by simp [results,Tryz.results63,go_sem]) rfl ⟨_,by rw [show R=true from hRv],fun _=>hrow,hR⟩
theorem flatm_all {W0:World}:∀ (d:Nat),d<=1000->FlatMC W0 d
 |0,_=>flatm_neg
 |d+1,h=>flatm_step (by omega) (flatm_all d (by omega))
theorem flat_get:∀ (l:List Al.Stmt) (i:Nat) (h:i<l.length) {t:Al.Stmt},t∈Al.flatS l[i]->t∈Al.flatL l
 |s :: l,0,_,t,ht=>by simp only [Al.flatL];exact List.mem_append_left _ ht
 |s :: l,i+1,h,t,ht=>by simp only [Al.flatL];exact List.mem_append_right _ (flat_get l i (by simpa using h) ht)
def WorkMC (W0:World)(d:Nat):Prop:=∀ (l:List Al.Stmt) (A:Option Addr) (cap:Nat) (dd:Int),dd=(d:Int) - 1->kStmt.C W0 A l.length l->l.length<=1000000000->(∀ s∈Al.flatL l,s.body.length<=1000000000/\s.els.length<=1000000000)->∀ w,Below W0.heap.size W0 w->
 Calls Tryz.prog 64 #[.slice A l.length cap,.int .i64 dd] w fun e w'=>e= .returned (.int .i64 (Al.workF d l))/\Below w.heap.size w w'
theorem work_neg {W0:World}:WorkMC W0 0:=by
 intro l A cap dd hdd hl hll hsub w hB
 have t0:decide (dd<0)=true:=decide_eq_true (by omega)
 clear hdd
 go_enter Tryz.func64,Tryz.ntmps64
 go_wp2_with fail
 exact bodyPost_ret (v:= .int .i64 1000) (by simp [results,Tryz.results64,go_sem]) rfl ⟨rfl,Below.refl _ _⟩
theorem work_step {W0:World}{d:Nat}(hd13:d<=1000)(hm:WorkMC W0 d):WorkMC W0 (d+1):=by
 intro l A cap dd hdd hl hll hsub w hB
 obtain rfl:dd=(d:Int):=by omega
 clear hdd
 obtain⟨R,hR0⟩:∃ R,R=Al.goW (Al.workF d) l 0:=⟨_,rfl⟩
 have hF:Al.workF (d+1) l=min R 1000:=by rw [hR0];rfl
 rw [hF]
 have td:decide ((d:Int)<0)=false:=decide_eq_false (by omega)
 have HL:=Lib.hid hl
 have HB:=Lib.hid hB
 have HS:=Lib.hid hsub
 have HR0:=Lib.hid hR0
 clear hl hB hR0 hF hsub
 go_enter Tryz.func64,Tryz.ntmps64
 go_wp2_with fail
 go_loopg [5,6,7,8,9] (l.length+1) (fun gk v5 v6 v7 v8 v9 w'=>∃ (i:Nat) (n:Int),v6= .int .i64 i/\v5= .int .i64 n/\i+gk=l.length+1/\i<=l.length/\0<=n/\n<=2000000/\Hid (Al.goW (Al.workF d) (l.drop i) n=R/\Below w.heap.size w w'))
 case atStart=>exact⟨0,0,rfl,rfl,by omega,by omega,by omega,by omega,show _/\_ from⟨(show R=_ from HR0).symm,Below.refl _ _⟩⟩
 case round=>
  obtain⟨i,n,rfl,rfl,hg,hi2,hn0,hn1,HR⟩:=hrel
  obtain⟨hgo,hR⟩:=show Al.goW (Al.workF d) (l.drop i) n=R/\Below w.heap.size w wr from HR
  have hB:=show Below W0.heap.size W0 w from HB
  have hB1:Below W0.heap.size W0 wr:=hB.trans (lower_below hR hB.size)
  by_cases hil:i<l.length
  ·have r0:(0:Int)<=(i:Int):=by omega
   have r1:(i:Int)<(l.length:Int):=by omega
   have r2:decide ((i:Int)<(l.length:Int))=true:=decide_eq_true r1
   rw [List.drop_eq_getElem_cons hil] at hgo
   unfold Al.goW at hgo
   by_cases hn:n<1000
   ·rw [if_pos hn] at hgo
    have r3:decide (n<1000)=true:=decide_eq_true hn
    obtain⟨k1,rfl⟩:∃ k1,gk=k1+1:=⟨gk - 1,by omega⟩
    obtain⟨ad,A6,c6,A7,c7,rfl,d0,d1,d2,d3,d4,d5,d6,d7,l6,g6,l7,g7⟩:=at_T902 (show kStmt.C W0 A l.length l from HL) (i:Int) (by omega) (by omega)
    clear d1 d2 d3 d4
    replace d0:=cell_since hB1 d0
    replace d5:=cell_since hB1 d5
    replace d6:=cell_since hB1 d6
    replace d7:=cell_since hB1 d7
    simp only [Int.toNat_natCast] at d0 d5 d6 d7
    obtain⟨s,hs⟩:∃ s,s=rd_T902 l (i:Int):=⟨_,rfl⟩
    simp only [<-hs] at d0 d5 d6 d7 l6 g6 l7 g7
    rw [rd_get l i hil] at hs
    rw [<-hs] at hgo
    have hmem:∀ t∈Al.flatS s,t∈Al.flatL l:=fun t ht=>flat_get l i hil (by rw [<-hs];exact ht)
    have hsub:=show ∀ s∈Al.flatL l,s.body.length<=1000000000/\s.els.length<=1000000000 from HS
    have hss:=hsub s (hmem s (Al.flat_self s))
    have hsb:∀ t∈Al.flatL s.body,t.body.length<=1000000000/\t.els.length<=1000000000:=fun t ht=>hsub t (hmem t (Al.flat_bodyS ht))
    have hse:∀ t∈Al.flatL s.els,t.body.length<=1000000000/\t.els.length<=1000000000:=fun t ht=>hsub t (hmem t (by rw [flatS_eq];exact List.mem_cons_of_mem _ (List.mem_append_right _ ht)))
    have HD1:=fun w1 dd hdd=>hm s.body A6 c6 dd hdd g6 hss.1 hsb w1
    have HD2:=fun w1 dd hdd=>hm s.els A7 c7 dd hdd g7 hss.2 hse w1
    clear hmem hsub hss hsb hse hs
    have hx1:=Al.workF_le d s.body
    have hx0:=Al.workF_nonneg d s.body
    have hy1:=Al.workF_le d s.els
    have hy0:=Al.workF_nonneg d s.els
    obtain⟨nn,hnn⟩:∃ nn,nn=Al.wS (Al.workF d) s:=⟨_,rfl⟩
    rw [<-hnn] at hgo
    unfold Al.wS at hnn
    obtain⟨x,hx⟩:∃ x,x=Al.workF d s.body:=⟨_,rfl⟩
    obtain⟨y,hy⟩:∃ y,y=Al.workF d s.els:=⟨_,rfl⟩
    rw [<-hx] at HD1 hnn hx1 hx0
    rw [<-hy] at HD2 hnn hy1 hy0
    clear hx hy
    obtain⟨mm,hmm⟩:∃ mm,mm=min (x+y) 1000:=⟨_,rfl⟩
    rw [<-hmm] at hnn
    have hm0:0<=mm:=by omega
    have hm1:mm<=1000:=by omega
    obtain⟨kk,hkk⟩:∃ kk,kk=max (min s.k 1000) 1:=⟨_,rfl⟩
    rw [<-hkk] at hnn
    have hk0:1<=kk:=by omega
    have hk1:kk<=1000:=by omega
    have hmk0:0<=mm * kk:=Int.mul_nonneg hm0 (by omega)
    have hmk1:mm * kk<=1000 * 1000:=Int.mul_le_mul hm1 hk1 (by omega) (by omega)
    replace hmm:=Lib.hid hmm
    replace hkk:=Lib.hid hkk
    replace hgo:=Lib.hid hgo
    have hw1:wrap64 (x+y)=x+y:=by unfold wrap64;omega
    have hw0:wrap64 ((d:Int) - 1)=(d:Int) - 1:=by unfold wrap64;omega
    have hw2:IntKind.i64.wrap ((d:Int) - 1)=(d:Int) - 1:=IntWalk.i64_in _ (by omega)
    have hBd:Below W0.heap.size W0 wr.drew:=below_drew' hB1
    by_cases p7:s.op=7
    ·have q7:(s.op == 7)=true:=by rw [p7];rfl
     have q15:(s.op == 15)=false:=by rw [p7];rfl
     have q16:(s.op == 16)=false:=by rw [p7];rfl
     rw [if_pos p7,if_neg (by omega)] at hnn
     clear p7
     clear HR
     go_wp2_with fail
     go_region_held3 (fun w'=>w'.cell? ⟨(ad.add (i * 8)).block,(ad.add (i * 8)).off+6,none⟩=some (.slice A6 s.body.length c6)/\w'.cell? ⟨(ad.add (i * 8)).block,(ad.add (i * 8)).off+7,none⟩=some (.slice A7 s.els.length c7)) ((constructor<;> assumption)) (first
      |(go_at_call 64;refine (HD1 _ _ (by first|exact hw2|exact hw0|rfl) hBd).mono ?_;rintro e w2 ⟨rfl,hb2⟩;replace hb2:=undrew hb2;have hB2:=hB1.trans (lower_below hb2 hB1.size);have e6:=cell_since hb2 d6;have e7:=cell_since hb2 d7;have e0:=cell_since hb2 d0;have e5:=cell_since hb2 d5;clear d0 d5 d6 d7 HD1)
      |(go_at_call 64;refine (HD2 _ _ (by first|exact hw2|exact hw0|rfl) hB2).mono ?_;rintro e w3 ⟨rfl,hb3⟩;have f6:=cell_since hb3 e6;have f7:=cell_since hb3 e7;have f0:=cell_since hb3 e0;have f5:=cell_since hb3 e5;clear e0 e5 e6 e7 HD2))
     have hR3:Hid (Below w.heap.size w w3):=Lib.hid ((hR.trans (lower_below hb2 hR.size)).trans (lower_below hb3 (Nat.le_trans hR.size hb2.size)))
     clear hb2 hb3 hB2 hBd f6 f7
     have hw:IntKind.i64.wrap (x+y)=x+y:=IntWalk.i64_in _ (by omega)
     try rw [hw]
     have hV:(if 1000<x+y then 1000 else x+y)=mm:=by rw [show mm=_ from hmm];split<;> omega
     rw [hV]
     clear hV hw hw0 hw1 hw2 hmm
     have g0:=f0
     have g5:=f5
     replace hnn:=Lib.hid hnn
     have hnE:n+nn=n+8+mm:=by rw [show nn=_ from hnn];omega
     have HN:Hid (Al.goW (Al.workF d) (l.drop (i+1)) (n+8+mm)=R/\Below w.heap.size w w3):=show _/\_ from⟨by rw [<-hnE];exact hgo,hR3⟩
     clear hnE
     go_wp2_with fail
     go_roundg k1
     case measure=>omega
     case rel=>exact⟨i+1,n+8+mm,by simp,rfl,by omega,by omega,by omega,by omega,HN⟩
    have q7:(s.op == 7)=false:=beq_false_of_ne p7
    rw [if_neg p7] at hnn
    by_cases p15:s.op=15
    ·have q15:(s.op == 15)=true:=by rw [p15];rfl
     rw [if_pos (.inl p15)] at hnn
     clear p7 p15
     clear HR
     go_wp2_with fail
     go_region_held3 (fun w'=>w'.cell? ⟨(ad.add (i * 8)).block,(ad.add (i * 8)).off+6,none⟩=some (.slice A6 s.body.length c6)/\w'.cell? ⟨(ad.add (i * 8)).block,(ad.add (i * 8)).off+7,none⟩=some (.slice A7 s.els.length c7)) ((constructor<;> assumption)) (first
      |(go_at_call 64;refine (HD1 _ _ (by first|exact hw2|exact hw0|rfl) hBd).mono ?_;rintro e w2 ⟨rfl,hb2⟩;replace hb2:=undrew hb2;have hB2:=hB1.trans (lower_below hb2 hB1.size);have e6:=cell_since hb2 d6;have e7:=cell_since hb2 d7;have e0:=cell_since hb2 d0;have e5:=cell_since hb2 d5;clear d0 d5 d6 d7 HD1)
      |(go_at_call 64;refine (HD2 _ _ (by first|exact hw2|exact hw0|rfl) hB2).mono ?_;rintro e w3 ⟨rfl,hb3⟩;have f6:=cell_since hb3 e6;have f7:=cell_since hb3 e7;have f0:=cell_since hb3 e0;have f5:=cell_since hb3 e5;clear e0 e5 e6 e7 HD2))
     have hR3:Hid (Below w.heap.size w w3):=Lib.hid ((hR.trans (lower_below hb2 hR.size)).trans (lower_below hb3 (Nat.le_trans hR.size hb2.size)))
     clear hb2 hb3 hB2 hBd f6 f7
     have hw:IntKind.i64.wrap (x+y)=x+y:=IntWalk.i64_in _ (by omega)
     try rw [hw]
     have hV:(if 1000<x+y then 1000 else x+y)=mm:=by rw [show mm=_ from hmm];split<;> omega
     rw [hV]
     clear hV hw hw0 hw1 hw2 hmm
     have g0:=f0
     have g5:=f5
     replace hnn:=Lib.hid hnn
     by_cases k1000:1000<s.k
     ·obtain rfl:kk=1000:=by rw [show kk=_ from hkk];omega
      have hnE:n+nn=n+1+mm * 1000:=by rw [show nn=_ from hnn];omega
      have HN:Hid (Al.goW (Al.workF d) (l.drop (i+1)) (n+1+mm * 1000)=R/\Below w.heap.size w w3):=show _/\_ from⟨by rw [<-hnE];exact hgo,hR3⟩
      clear hnE
      go_wp2_with fail
      go_roundg k1
      case measure=>omega
      case rel=>exact⟨i+1,n+1+mm * 1000,by simp,rfl,by omega,by omega,by omega,by omega,HN⟩
     by_cases kone:s.k<1
     ·obtain rfl:kk=1:=by rw [show kk=_ from hkk];omega
      have hnE:n+nn=n+1+mm:=by rw [show nn=_ from hnn];omega
      have HN:Hid (Al.goW (Al.workF d) (l.drop (i+1)) (n+1+mm)=R/\Below w.heap.size w w3):=show _/\_ from⟨by rw [<-hnE];exact hgo,hR3⟩
      clear hnE
      go_wp2_with fail
      go_roundg k1
      case measure=>omega
      case rel=>exact⟨i+1,n+1+mm,by simp,rfl,by omega,by omega,by omega,by omega,HN⟩
     obtain rfl:kk=s.k:=by rw [show kk=_ from hkk];omega
     have kw2:wrap64 (mm * s.k)=mm * s.k:=by unfold wrap64;omega
     have kw3:wrap64 (n+1+mm * s.k)=n+1+mm * s.k:=by unfold wrap64;omega
     have hnE:n+nn=n+1+mm * s.k:=by rw [show nn=_ from hnn];omega
     have HN:Hid (Al.goW (Al.workF d) (l.drop (i+1)) (n+1+mm * s.k)=R/\Below w.heap.size w w3):=show _/\_ from⟨by rw [<-hnE];exact hgo,hR3⟩
     clear hnE
     go_wp2_with fail
     go_roundg k1
     case measure=>omega
     case rel=>exact⟨i+1,n+1+mm * s.k,by simp,rfl,by omega,by omega,by omega,by omega,HN⟩
    have q15:(s.op == 15)=false:=beq_false_of_ne p15
    by_cases p16:s.op=16
    ·have q16:(s.op == 16)=true:=by rw [p16];rfl
     rw [if_pos (.inr p16)] at hnn
     clear p7 p15 p16
     clear HR
     go_wp2_with fail
     go_region_held3 (fun w'=>w'.cell? ⟨(ad.add (i * 8)).block,(ad.add (i * 8)).off+6,none⟩=some (.slice A6 s.body.length c6)/\w'.cell? ⟨(ad.add (i * 8)).block,(ad.add (i * 8)).off+7,none⟩=some (.slice A7 s.els.length c7)) ((constructor<;> assumption)) (first
      |(go_at_call 64;refine (HD1 _ _ (by first|exact hw2|exact hw0|rfl) hBd).mono ?_;rintro e w2 ⟨rfl,hb2⟩;replace hb2:=undrew hb2;have hB2:=hB1.trans (lower_below hb2 hB1.size);have e6:=cell_since hb2 d6;have e7:=cell_since hb2 d7;have e0:=cell_since hb2 d0;have e5:=cell_since hb2 d5;clear d0 d5 d6 d7 HD1)
      |(go_at_call 64;refine (HD2 _ _ (by first|exact hw2|exact hw0|rfl) hB2).mono ?_;rintro e w3 ⟨rfl,hb3⟩;have f6:=cell_since hb3 e6;have f7:=cell_since hb3 e7;have f0:=cell_since hb3 e0;have f5:=cell_since hb3 e5;clear e0 e5 e6 e7 HD2))
     have hR3:Hid (Below w.heap.size w w3):=Lib.hid ((hR.trans (lower_below hb2 hR.size)).trans (lower_below hb3 (Nat.le_trans hR.size hb2.size)))
     clear hb2 hb3 hB2 hBd f6 f7
     have hw:IntKind.i64.wrap (x+y)=x+y:=IntWalk.i64_in _ (by omega)
     try rw [hw]
     have hV:(if 1000<x+y then 1000 else x+y)=mm:=by rw [show mm=_ from hmm];split<;> omega
     rw [hV]
     clear hV hw hw0 hw1 hw2 hmm
     have g0:=f0
     have g5:=f5
     replace hnn:=Lib.hid hnn
     by_cases k1000:1000<s.k
     ·obtain rfl:kk=1000:=by rw [show kk=_ from hkk];omega
      have hnE:n+nn=n+1+mm * 1000:=by rw [show nn=_ from hnn];omega
      have HN:Hid (Al.goW (Al.workF d) (l.drop (i+1)) (n+1+mm * 1000)=R/\Below w.heap.size w w3):=show _/\_ from⟨by rw [<-hnE];exact hgo,hR3⟩
      clear hnE
      go_wp2_with fail
      go_roundg k1
      case measure=>omega
      case rel=>exact⟨i+1,n+1+mm * 1000,by simp,rfl,by omega,by omega,by omega,by omega,HN⟩
     by_cases kone:s.k<1
     ·obtain rfl:kk=1:=by rw [show kk=_ from hkk];omega
      have hnE:n+nn=n+1+mm:=by rw [show nn=_ from hnn];omega
      have HN:Hid (Al.goW (Al.workF d) (l.drop (i+1)) (n+1+mm)=R/\Below w.heap.size w w3):=show _/\_ from⟨by rw [<-hnE];exact hgo,hR3⟩
      clear hnE
      go_wp2_with fail
      go_roundg k1
      case measure=>omega
      case rel=>exact⟨i+1,n+1+mm,by simp,rfl,by omega,by omega,by omega,by omega,HN⟩
     obtain rfl:kk=s.k:=by rw [show kk=_ from hkk];omega
     have kw2:wrap64 (mm * s.k)=mm * s.k:=by unfold wrap64;omega
     have kw3:wrap64 (n+1+mm * s.k)=n+1+mm * s.k:=by unfold wrap64;omega
     have hnE:n+nn=n+1+mm * s.k:=by rw [show nn=_ from hnn];omega
     have HN:Hid (Al.goW (Al.workF d) (l.drop (i+1)) (n+1+mm * s.k)=R/\Below w.heap.size w w3):=show _/\_ from⟨by rw [<-hnE];exact hgo,hR3⟩
     clear hnE
     go_wp2_with fail
     go_roundg k1
     case measure=>omega
     case rel=>exact⟨i+1,n+1+mm * s.k,by simp,rfl,by omega,by omega,by omega,by omega,HN⟩
    have q16:(s.op == 16)=false:=beq_false_of_ne p16
    rw [if_neg (by omega)] at hnn
    clear p7 p15 p16
    clear HR
    go_wp2_with fail
    go_region_held3 (fun w'=>w'.cell? ⟨(ad.add (i * 8)).block,(ad.add (i * 8)).off+6,none⟩=some (.slice A6 s.body.length c6)/\w'.cell? ⟨(ad.add (i * 8)).block,(ad.add (i * 8)).off+7,none⟩=some (.slice A7 s.els.length c7)) ((constructor<;> assumption)) (first
     |(go_at_call 64;refine (HD1 _ _ (by first|exact hw2|exact hw0|rfl) hBd).mono ?_;rintro e w2 ⟨rfl,hb2⟩;replace hb2:=undrew hb2;have hB2:=hB1.trans (lower_below hb2 hB1.size);have e6:=cell_since hb2 d6;have e7:=cell_since hb2 d7;have e0:=cell_since hb2 d0;have e5:=cell_since hb2 d5;clear d0 d5 d6 d7 HD1)
     |(go_at_call 64;refine (HD2 _ _ (by first|exact hw2|exact hw0|rfl) hB2).mono ?_;rintro e w3 ⟨rfl,hb3⟩;have f6:=cell_since hb3 e6;have f7:=cell_since hb3 e7;have f0:=cell_since hb3 e0;have f5:=cell_since hb3 e5;clear e0 e5 e6 e7 HD2))
    have hR3:Hid (Below w.heap.size w w3):=Lib.hid ((hR.trans (lower_below hb2 hR.size)).trans (lower_below hb3 (Nat.le_trans hR.size hb2.size)))
    clear hb2 hb3 hB2 hBd f6 f7
    have hw:IntKind.i64.wrap (x+y)=x+y:=IntWalk.i64_in _ (by omega)
    try rw [hw]
    have hV:(if 1000<x+y then 1000 else x+y)=mm:=by rw [show mm=_ from hmm];split<;> omega
    rw [hV]
    clear hV hw hw0 hw1 hw2 hmm
    have g0:=f0
    have g5:=f5
    replace hnn:=Lib.hid hnn
    have hnE:n+nn=n+1+mm:=by rw [show nn=_ from hnn];omega
    have HN:Hid (Al.goW (Al.workF d) (l.drop (i+1)) (n+1+mm)=R/\Below w.heap.size w w3):=show _/\_ from⟨by rw [<-hnE];exact hgo,hR3⟩
    clear hnE
    go_wp2_with fail
    go_roundg k1
    case measure=>omega
    case rel=>exact⟨i+1,n+1+mm,by simp,rfl,by omega,by omega,by omega,by omega,HN⟩
   ·rw [if_neg hn] at hgo
    have r3:decide (n<1000)=false:=decide_eq_false hn
    have hmin:min R 1000=1000:=by omega
    replace hmin:=Lib.hid hmin
    clear hgo
    by_cases hc:1000<n
    ·go_wp2_with fail
     exact bodyPost_ret (v:= .int .i64 1000) (by simp [results,Tryz.results64,go_sem]) rfl ⟨by rw [show min R 1000=1000 from hmin],hR⟩
    ·obtain rfl:n=1000:=by omega
     go_wp2_with fail
     exact bodyPost_ret (v:= .int .i64 1000) (by simp [results,Tryz.results64,go_sem]) rfl ⟨by rw [show min R 1000=1000 from hmin],hR⟩
  ·have hie:i=l.length:=by omega
   have r2:decide ((i:Int)<(l.length:Int))=false:=by simp;omega
   rw [hie,List.drop_length] at hgo
   have hRn:n=R:=hgo
   clear hgo
   by_cases hc:1000<n
   ·have hmin:min R 1000=1000:=by omega
    replace hmin:=Lib.hid hmin
    clear hRn
    go_wp2_with fail
    exact bodyPost_ret (v:= .int .i64 1000) (by simp [results,Tryz.results64,go_sem]) rfl ⟨by rw [show min R 1000=1000 from hmin],hR⟩
   ·have hmin:min R 1000=n:=by omega
    replace hmin:=Lib.hid hmin
    clear hRn
    go_wp2_with fail
    exact bodyPost_ret (v:= .int .i64 n) (by simp [results,Tryz.results64,go_sem]) rfl ⟨by rw [show min R 1000=n from hmin],hR⟩
theorem work_all {W0:World}:∀ (d:Nat),d<=1000->WorkMC W0 d
 |0,_=>work_neg
 |d+1,h=>work_step (by omega) (work_all d (by omega))
mutual
theorem sub_stmt:∀ (t s:Al.Stmt),s∈Al.flatS t->(Al.flatL s.body).length<=(Al.flatS t).length/\(Al.flatL s.els).length<=(Al.flatS t).length
 |⟨op,d,a,b,c,k,body,els⟩,s,h=>by
  simp only [Al.flatS,List.mem_cons,List.mem_append,List.length_cons,List.length_append] at h ⊢
  rcases h with rfl|h|h
  ·simp only;omega
  ·have:=sub_list body s h;omega
  ·have:=sub_list els s h;omega
theorem sub_list:∀ (l:List Al.Stmt) (s:Al.Stmt),s∈Al.flatL l->(Al.flatL s.body).length<=(Al.flatL l).length/\(Al.flatL s.els).length<=(Al.flatL l).length
 |[],s,h=>by simp [Al.flatL] at h
 |t :: l,s,h=>by
  simp only [Al.flatL,List.mem_append,List.length_append] at h ⊢
  rcases h with h|h
  ·have:=sub_stmt t s h;omega
  ·have:=sub_list l s h;omega
end
def lightF (p:Al.Prog):Bool:=decide (p.n<=16) && (decide (p.vars.length<=20) && (flatOk 13 p.body && decide (Al.workF 13 p.body<=400)))
theorem light_prog {w:World}{p:Al.Prog}{Va Ab:Option Addr}{vc cb:Nat}(hp:PLies w p Va Ab vc cb):
  Calls Tryz.prog 32 #[progV p Va Ab vc cb,.int .i64 16,.int .i64 30] w fun e w'=>e= .returned (.bool (lightF p))/\Below w.heap.size w w':=by
 obtain⟨R,hR⟩:∃ R,R=lightF p:=⟨_,rfl⟩
 rw [<-hR]
 unfold lightF at hR
 obtain⟨W,hW⟩:∃ W,W=w.alloc (.cells #[.int .i64 p.q,.int .i64 p.n,.slice Va p.vars.length vc,.slice Ab p.body.length cb] 27):=⟨_,rfl⟩
 obtain⟨kp,hkp⟩:∃ kp,kp=w.heap.size:=⟨_,rfl⟩
 have hb0:Below w.heap.size w W:=by rw [hW];exact (Below.refl _ _).alloc (Nat.le_refl _) _
 have P0:PBox W kp p Va Ab vc cb:=by rw [hW,hkp];exact heap_alloc_new w _
 have hkl:kp<W.heap.size:=blk_lt P0
 have HFl:=flatm_all (W0:=w) 13 (by omega) p.body Ab cb 12 (by omega) hp.b W hb0
 obtain⟨p0,p1,p2,p3⟩:=P0.cells
 by_cases c0:(16:Int)<p.n
 ·have t0:decide ((16:Int)<p.n)=true:=decide_eq_true c0
  have hRv:=Lib.hid (show R=false by rw [hR,decide_eq_false (by omega)];rfl)
  clear hR
  go_enter Tryz.func32,Tryz.ntmps32
  unfold progV
  go_wp2_with fail
  rw [<-hW]
  exact bodyPost_ret (v:= .bool false) (by simp [results,Tryz.results32,go_sem]) rfl ⟨by rw [show R=false from hRv],hb0⟩
 have t0:decide ((16:Int)<p.n)=false:=decide_eq_false c0
 rw [decide_eq_true (show p.n<=16 by omega),Bool.true_and] at hR
 by_cases c1:(20:Int)<p.vars.length
 ·have t1:decide ((20:Int)<(p.vars.length:Int))=true:=decide_eq_true c1
  have hRv:=Lib.hid (show R=false by rw [hR,decide_eq_false (by omega)];rfl)
  clear hR
  go_enter Tryz.func32,Tryz.ntmps32
  unfold progV
  go_wp2_with fail
  rw [<-hW]
  exact bodyPost_ret (v:= .bool false) (by simp [results,Tryz.results32,go_sem]) rfl ⟨by rw [show R=false from hRv],hb0⟩
 have t1:decide ((20:Int)<(p.vars.length:Int))=false:=decide_eq_false c1
 rw [decide_eq_true (show p.vars.length<=20 by omega),Bool.true_and] at hR
 have hlen:flatOk 13 p.body=true->(Al.flatL p.body).length<=30:=flatOk_len
 obtain⟨ok,hok⟩:∃ ok,ok=flatOk 13 p.body:=⟨_,rfl⟩
 rw [<-hok] at HFl hR hlen
 replace hok:=Lib.hid hok
 have hR':=Lib.hid hR
 clear hR
 go_enter Tryz.func32,Tryz.ntmps32
 unfold progV
 go_wp2_with fail
 have hR:=show R=_ from hR'
 rw [<-hW]
 simp only [<-hkp]
 replace hkp:=Lib.hid hkp
 clear hW
 cases ok
 ·have hRv:=Lib.hid (show R=false by rw [hR];rfl)
  clear hR hlen
  go_wp2_with (first|(go_at_call 63;refine HFl.mono ?_;rintro e w1 ⟨v,rfl,_,hb1⟩))
  exact bodyPost_ret (v:= .bool false) (by simp [results,Tryz.results32,go_sem]) rfl ⟨by rw [show R=false from hRv],hb0.trans (lower_below hb1 hb0.size)⟩
 ·have h30:=hlen rfl
  rw [Bool.true_and] at hR
  have hb30:=flatL_len p.body
  have hsub:∀ s∈Al.flatL p.body,s.body.length<=1000000000/\s.els.length<=1000000000:=fun s hs=>by
   have h1:=sub_list p.body s hs
   have h2:=flatL_len s.body
   have h3:=flatL_len s.els
   omega
  have HW:=fun w1 hb=>work_all (W0:=w) 13 (by omega) p.body Ab cb 12 (by omega) hp.b (by omega) hsub w1 hb
  clear hsub hlen
  obtain⟨wk,hwk⟩:∃ wk,wk=Al.workF 13 p.body:=⟨_,rfl⟩
  rw [<-hwk] at HW hR
  replace hwk:=Lib.hid hwk
  obtain⟨nf,hnf⟩:∃ nf,nf=(Al.flatL p.body).length:=⟨_,rfl⟩
  have t4:decide ((nf:Int)<=30)=true:=decide_eq_true (by omega)
  have hnf':=Lib.hid hnf
  replace hR:=Lib.hid hR
  rw [<-hnf] at h30 hb30
  clear hnf
  cases hwd:decide (wk<=400)
  all_goals
   have hRv:=Lib.hid ((show R=_ from hR).trans hwd)
   clear hR
   go_wp2_with (first
    |(go_at_call 63;refine HFl.mono ?_;rintro e w1 ⟨v,rfl,hrow,hb1⟩;obtain⟨cs1,hown1,_⟩:=hrow (by trivial);obtain⟨a1,c1',rfl⟩:=own_slice hown1;rw [<-(show nf=_ from hnf')];have P1:PBox w1 kp p Va Ab vc cb:=below_blk hb1 P0 hkl;have hb2:=hb0.trans (lower_below hb1 hb0.size);have q3:=P1.cells.2.2.2;clear hrow hown1)
    |(go_at_call 64;refine (HW w1 hb2).mono ?_;rintro e w2 ⟨rfl,hb3⟩))
  ·exact bodyPost_ret (v:= .bool false) (by simp [results,Tryz.results32,go_sem]) rfl ⟨by rw [show R=false from hRv],hb2.trans (lower_below hb3 hb2.size)⟩
  ·exact bodyPost_ret (v:= .bool true) (by simp [results,Tryz.results32,go_sem]) rfl ⟨by rw [show R=true from hRv],hb2.trans (lower_below hb3 hb2.size)⟩
theorem light_any {w:World}{p:Al.Prog}{Va Ab:Option Addr}{vc cb:Nat}(hp:PLies w p Va Ab vc cb)(Ia Ta:Option Addr)(ni ic nt tc:Nat):
  Calls Tryz.prog 8 #[progV p Va Ab vc cb,.slice Ia ni ic,.slice Ta nt tc] w fun e w'=>e= .returned (.bool (lightF p && (decide (ni<=14) && decide (nt<=200))))/\Below w.heap.size w w':=by
 obtain⟨R,hR⟩:∃ R,R=(lightF p && (decide (ni<=14) && decide (nt<=200))):=⟨_,rfl⟩
 rw [<-hR]
 obtain⟨W,hW⟩:∃ W,W=w.alloc (.cells #[.int .i64 p.q,.int .i64 p.n,.slice Va p.vars.length vc,.slice Ab p.body.length cb] 27):=⟨_,rfl⟩
 have hb0:Below w.heap.size w W:=by rw [hW];exact (Below.refl _ _).alloc (Nat.le_refl _) _
 obtain⟨kp,hkp⟩:∃ kp,kp=w.heap.size:=⟨_,rfl⟩
 have P0:PBox W kp p Va Ab vc cb:=by rw [hW,hkp];exact heap_alloc_new w _
 have HL:=light_prog (hp.below hb0)
 obtain⟨li,hli⟩:∃ li,li=lightF p:=⟨_,rfl⟩
 rw [<-hli] at HL hR
 clear hli
 obtain⟨p0,p1,p2,p3⟩:=P0.cells
 unfold progV at HL
 go_enter Tryz.func8,Tryz.ntmps8
 unfold progV
 go_wp2_with fail
 rw [<-hW]
 simp only [<-hkp]
 replace hkp:=Lib.hid hkp
 clear hW
 cases li
 ·have hRv:=Lib.hid (show R=false by rw [hR];rfl)
  clear hR
  go_wp2_with (first|(go_at_call 32;refine HL.mono ?_;rintro e w1 ⟨rfl,hb1⟩))
  exact bodyPost_ret (v:= .bool false) (by simp [results,Tryz.results8,go_sem]) rfl ⟨by rw [show R=false from hRv],hb0.trans (lower_below hb1 hb0.size)⟩
 ·rw [Bool.true_and] at hR
  by_cases c0:ni<=14
  ·have t0:decide ((ni:Int)<=14)=true:=decide_eq_true (by omega)
   rw [decide_eq_true c0,Bool.true_and] at hR
   by_cases c1:nt<=200
   ·have t1:decide ((nt:Int)<=200)=true:=decide_eq_true (by omega)
    have hRv:=Lib.hid (show R=true by rw [hR,decide_eq_true c1])
    clear hR
    go_wp2_with (first|(go_at_call 32;refine HL.mono ?_;rintro e w1 ⟨rfl,hb1⟩))
    exact bodyPost_ret (v:= .bool true) (by simp [results,Tryz.results8,go_sem]) rfl ⟨by rw [show R=true from hRv],hb0.trans (lower_below hb1 hb0.size)⟩
   ·have t1:decide ((nt:Int)<=200)=false:=decide_eq_false (by omega)
    have hRv:=Lib.hid (show R=false by rw [hR,decide_eq_false c1])
    clear hR
    go_wp2_with (first|(go_at_call 32;refine HL.mono ?_;rintro e w1 ⟨rfl,hb1⟩))
    exact bodyPost_ret (v:= .bool false) (by simp [results,Tryz.results8,go_sem]) rfl ⟨by rw [show R=false from hRv],hb0.trans (lower_below hb1 hb0.size)⟩
  ·have t0:decide ((ni:Int)<=14)=false:=decide_eq_false (by omega)
   have hRv:=Lib.hid (show R=false by rw [hR,decide_eq_false c0];rfl)
   clear hR
   go_wp2_with (first|(go_at_call 32;refine HL.mono ?_;rintro e w1 ⟨rfl,hb1⟩))
   exact bodyPost_ret (v:= .bool false) (by simp [results,Tryz.results8,go_sem]) rfl ⟨by rw [show R=false from hRv],hb0.trans (lower_below hb1 hb0.size)⟩
theorem ref_place (w:World)(p:Al.Prog)(Va Ab:Option Addr)(vc cb:Nat)(v:Int)(hv:0<=v/\v<=1000)(hn:0<=p.n/\p.n<=1000):
  Calls Tryz.prog 27 #[progV p Va Ab vc cb,.int .i64 v] w fun e w'=>e= .returned (.int .i64 (Al.placeF p v))/\Below w.heap.size w w':=by
 have hb0:Below w.heap.size w (w.alloc (.cells #[.int .i64 p.q,.int .i64 p.n,.slice Va p.vars.length vc,.slice Ab p.body.length cb] 27)):=(Below.refl _ _).alloc (Nat.le_refl _) _
 obtain⟨R,hR⟩:∃ R,R=Al.placeF p v:=⟨_,rfl⟩
 have h0:0<=v * p.n:=Int.mul_nonneg hv.1 hn.1
 have h1:v * p.n<=1000 * 1000:=Int.mul_le_mul hv.2 hn.2 hn.1 (by omega)
 have k1:wrap64 (v * p.n)=v * p.n:=by unfold wrap64;omega
 have k2:wrap64 (2+v * p.n)=2+v * p.n:=by unfold wrap64;omega
 have hE:Al.placeF p v=2+v * p.n:=rfl
 rw [hE]
 clear hE hR R
 go_enter Tryz.func27,Tryz.ntmps27
 unfold progV
 go_wp2_with fail
 exact bodyPost_ret (v:= .int .i64 (2+v * p.n)) (by simp [results,Tryz.results27,go_sem]) rfl ⟨rfl,hb0⟩
theorem ref_tape (w:World)(p:Al.Prog)(Va Ab:Option Addr)(vc cb:Nat)(hv:p.vars.length<=1000)(hn:0<=p.n/\p.n<=1000):
  Calls Tryz.prog 24 #[progV p Va Ab vc cb] w fun e w'=>e= .returned (.int .i64 (Al.endF p))/\Below w.heap.size w w':=by
 have hb0:Below w.heap.size w (w.alloc (.cells #[.int .i64 p.q,.int .i64 p.n,.slice Va p.vars.length vc,.slice Ab p.body.length cb] 27)):=(Below.refl _ _).alloc (Nat.le_refl _) _
 have h0:0<=(p.vars.length:Int) * p.n:=Int.mul_nonneg (by omega) hn.1
 have h1:(p.vars.length:Int) * p.n<=1000 * 1000:=Int.mul_le_mul (by omega) hn.2 hn.1 (by omega)
 have k1:wrap64 ((p.vars.length:Int) * p.n)=(p.vars.length:Int) * p.n:=by unfold wrap64;omega
 have k2:wrap64 (2+(p.vars.length:Int) * p.n)=2+(p.vars.length:Int) * p.n:=by unfold wrap64;omega
 have hE:Al.endF p=2+p.vars.length * p.n:=rfl
 rw [hE]
 clear hE
 go_enter Tryz.func24,Tryz.ntmps24
 unfold progV
 go_wp2_with fail
 exact bodyPost_ret (v:= .int .i64 (2+(p.vars.length:Int) * p.n)) (by simp [results,Tryz.results24,go_sem]) rfl ⟨rfl,hb0⟩
theorem other_any (w:World)(a:Option Addr)(n c:Nat)(r m:Int):Calls Tryz.prog 13 #[.agg #[.slice a n c,.int .i64 r,.int .i64 m]] w fun e w'=>e= .returned (.agg #[.slice a n c,.int .i64 r,.int .i64 m])/\Below w.heap.size w w':=by
 have hb0:Below w.heap.size w ((w.alloc (.cells #[.slice a n c,.int .i64 r,.int .i64 m] 41)).alloc (.cells #[.slice a n c,.int .i64 r,.int .i64 m] 53)):=alloc_two _ _ _
 go_enter Tryz.func13,Tryz.ntmps13
 go_wp2_with fail
 trace_state
 exact bodyPost_ret (v:= .agg #[.slice a n c,.int .i64 r,.int .i64 m]) (by simp [results,Tryz.results13,go_sem]) rfl ⟨rfl,hb0⟩
theorem steps_any (w:World)(q n k:Int)(hn:0<=n/\n<=16)(hk:0<=k/\k<=3000):Calls Tryz.prog 14 #[.agg #[.int .i64 q,.int .i64 n],.int .i64 k] w fun e w'=>e= .returned (.int .i64 ((k+1) * (16 * n * n+16384)))/\Below w.heap.size w w':=by
 have hb0:Below w.heap.size w (w.alloc (.cells #[.int .i64 q,.int .i64 n] 23)):=(Below.refl _ _).alloc (Nat.le_refl _) _
 have h0:0<=n * n:=Int.mul_nonneg hn.1 hn.1
 have h1:n * n<=16 * 16:=Int.mul_le_mul hn.2 hn.2 hn.1 (by omega)
 have e1:16 * n * n=16 * (n * n):=Int.mul_assoc _ _ _
 have h2:0<=(k+1) * (16 * n * n+16384):=Int.mul_nonneg (by omega) (by omega)
 have h3:(k+1) * (16 * n * n+16384)<=3001 * 20480:=Int.mul_le_mul (by omega) (by omega) (by omega) (by omega)
 have k0:wrap64 (16 * n)=16 * n:=by unfold wrap64;omega
 have k1:wrap64 (16 * n * n)=16 * n * n:=by unfold wrap64;omega
 have k2:wrap64 (16 * n * n+16384)=16 * n * n+16384:=by unfold wrap64;omega
 have k3:wrap64 ((k+1) * (16 * n * n+16384))=(k+1) * (16 * n * n+16384):=by unfold wrap64;omega
 have k4:¬(1073741824:Int)<(k+1) * (16 * n * n+16384):=by omega
 have hE:Lib.hid (show (0:Int)=0 from rfl)=Lib.hid rfl:=rfl
 clear hE e1
 go_enter Tryz.func14,Tryz.ntmps14
 go_wp2_with fail
 exact bodyPost_ret (v:= .int .i64 ((k+1) * (16 * n * n+16384))) (by simp [results,Tryz.results14,go_sem, *]) rfl ⟨rfl,hb0⟩
end Go.Proofs.YtkplfaionpplaaaGreatDoor
