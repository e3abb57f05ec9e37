/- Part 33: B83, B84, P38, B85, B66, P34. -/
import Derived.Test.YtkplfaionpplaaaGreatDoorK32
set_option maxRecDepth 100000
set_option maxHeartbeats 6400000
set_option linter.unusedVariables false
set_option linter.unusedSimpArgs false
namespace Go.Proofs.YtkplfaionpplaaaGreatDoor
open Go.RowKit Go.Proofs.YtkplfaionpplaaaGreatDoorW.PrintLast Go.Proofs.YtkplfaionpplaaaGreatDoorW.PrintWords
def runF (p:Al.Prog)(ins:List (List Int))(tape:List Int)(F:Nat):Al.Fault:=if (Al.checkF p).code≠0 then Al.checkF p else Al.inputsF p.q p.n p.vars ins tape F
set_option maxHeartbeats 51200000 in
theorem run_no {w:World}{p:Al.Prog}{Va Ab Ia Ta:Option Addr}{vc cb ic tc:Nat}{ins:List (List Int)}{tape:List Int}{F:Nat}(hp:PLies w p Va Ab vc cb)(hfl:(Al.flatL p.body).length<=100)(hvl:p.vars.length<=1000)(hil:ins.length<=1000000)(hno:(runF p ins tape F).code≠0)
  (hi:Kd.C (Kd.slice 3 (Kd.int .i64)) w Ia ins.length ins):
  Calls Tryz.prog 9 #[.agg #[.int .i64 p.q,.int .i64 p.n,.slice Va p.vars.length vc,.slice Ab p.body.length cb],.slice Ia ins.length ic,.slice Ta tape.length tc,.int .i64 F] w fun e w'=>e= .returned (.tuple #[.agg #[.int .i64 0,.slice none 0 0,.slice none 0 0,.int .i64 0,.int .i64 0],faultV (runF p ins tape F)])/\Below w.heap.size w w':=by
 obtain⟨W,hW⟩:∃ W,W=((w.alloc (.cells #[.int .i64 p.q,.int .i64 p.n,.slice Va p.vars.length vc,.slice Ab p.body.length cb] 27)).alloc (.cells #[.int .i64 0,.slice none 0 0,.slice none 0 0,.int .i64 0,.int .i64 0] 34)).alloc (.cells #[.int .i64 0,.bool false,.int .i64 0] 36):=⟨_,rfl⟩
 obtain⟨kp,hkp⟩:∃ kp,kp=w.heap.size:=⟨_,rfl⟩
 have hb0:Below w.heap.size w W:=by rw [hW];exact (alloc_two w _ _).alloc (by simp;omega) _
 have P0:PBox W kp p Va Ab vc cb:=by rw [hW,hkp];exact alloc_blk _ (alloc_blk _ (heap_alloc_new w _))
 have R8:W.heap[kp+1]?=some (.cells #[.int .i64 0,.slice none 0 0,.slice none 0 0,.int .i64 0,.int .i64 0] 34 (0,0)):=by rw [hW,hkp];exact alloc_blk _ (alloc_at _ _ _)
 have R9:W.heap[kp+1+1]?=some (.cells #[.int .i64 0,.bool false,.int .i64 0] 36 (0,0)):=by
  rw [hW,hkp]
  have:=heap_alloc_new ((w.alloc (.cells #[.int .i64 p.q,.int .i64 p.n,.slice Va p.vars.length vc,.slice Ab p.body.length cb] 27)).alloc (.cells #[.int .i64 0,.slice none 0 0,.slice none 0 0,.int .i64 0,.int .i64 0] 34)) (.cells #[.int .i64 0,.bool false,.int .i64 0] 36)
  simpa using this
 have HCk:=ref_check (hp.below hb0) hfl hvl
 obtain⟨fc,hfc⟩:∃ fc,fc=Al.checkF p:=⟨_,rfl⟩
 obtain⟨fi,hfi⟩:∃ fi,fi=Al.inputsF p.q p.n p.vars ins tape F:=⟨_,rfl⟩
 obtain⟨fr,hfr⟩:∃ fr,fr=runF p ins tape F:=⟨_,rfl⟩
 rw [<-hfc] at HCk
 rw [<-hfr] at hno ⊢
 have hrr:fr=if fc.code≠0 then fc else fi:=by rw [hfr,hfc,hfi];rfl
 have HIn:=fun (w1:World) (hb:Below w.heap.size w w1)=>ref_inputs (w:=w1) (q:=p.q) (n:=p.n) (tape:=tape) (Ta:=Ta) (tc:=tc) (vc:=vc) (ic:=ic) F (Kd.C_below hp.v hb) hvl (Kd.C_below hi hb) hil
 simp only [<-hfi,faultV] at HIn
 obtain⟨cc,cp,cq⟩:=fc
 obtain⟨ic',ip,iq⟩:=fi
 simp only [] at HCk HIn hrr
 clear hp hi hfc hfi hfr
 unfold faultV
 go_enter Tryz.func9,Tryz.ntmps9
 go_upto_region 1 with (fail)
 rw [<-hW]
 simp only [<-hkp]
 have HKP:=Lib.hid hkp
 obtain⟨p0,p1,p2,p3⟩:=P0.cells
 clear hW hkp
 go_upto_region 2 with (first
  |(go_at_call 19;((with_reducible refine HCk.mono ?_);rintro e w1 ⟨rfl,hb1⟩;have P1:PBox w1 kp p Va Ab vc cb:=below_blk hb1 P0 (blk_lt P0);have R81:=below_blk hb1 R8 (blk_lt R8);have R91:=below_blk hb1 R9 (blk_lt R9);have hb2:=hb0.trans (lower_below hb1 hb0.size);clear P0 R8 R9 hb1 HCk p0 p1 p2 p3 hb0)))
 refine gen_world (Q:=fun W=>Code.wp _ _ _ _ W) _ (fun W=>PBox W kp p Va Ab vc cb/\W.heap[kp+1]?=some (.cells #[.int .i64 0,.slice none 0 0,.slice none 0 0,.int .i64 0,.int .i64 0] 34 (0,0))/\W.heap[kp+1+1]?=some (.cells #[.int .i64 0,.bool false,.int .i64 0] 36 (0,0))/\W.heap[w1.heap.size]?=some (.cells #[.int .i64 cc,.bool cp,.int .i64 cq] 36 (0,0))/\Below w.heap.size w W) ⟨alloc_blk _ P1,alloc_blk _ R81,alloc_blk _ R91,heap_alloc_new w1 _,hb2.alloc hb2.size _⟩ ?_
 obtain⟨kf,hkf⟩:∃ kf,kf=w1.heap.size:=⟨_,rfl⟩
 have hkfb:w.heap.size<=kf:=by rw [hkf];exact hb2.size
 simp only [<-hkf]
 have hk9:kp+1+1<kf:=by rw [hkf];exact blk_lt R91
 have HKF:=Lib.hid hkf
 clear P1 R81 R91 hb2 hkf
 rintro W2 ⟨P2,R8,R9,RF,hb2⟩
 obtain⟨p0,p1,p2,p3⟩:=P2.cells
 have hbk:w.heap.size<=kp:=by rw [show kp=_ from HKP];exact Nat.le_refl _
 by_cases hz:cc=0
 ·subst hz
  have hrr2:fr=⟨ic',ip,iq⟩:=by rw [hrr];rfl
  clear hrr
  subst hrr2
  have hno2:ic'≠0:=hno
  have hne:((ic':Int) !=0)=true:=by simp [hno2]
  clear hno hno2
  have f0:W2.cell? ⟨kf,0,none⟩=some (.int .i64 0):=(cell_blk RF _).trans rfl
  have f1:W2.cell? ⟨kf,1,none⟩=some (.bool cp):=(cell_blk RF _).trans rfl
  have f2:W2.cell? ⟨kf,2,none⟩=some (.int .i64 cq):=(cell_blk RF _).trans rfl
  have HIn2:=HIn W2 hb2
  clear HIn
  go_upto_region 4 with (first
   |(go_at_call 21;((with_reducible refine HIn2.mono ?_);rintro e w3 ⟨rfl,hb3⟩;have P3:PBox w3 kp p Va Ab vc cb:=below_blk hb3 P2 (blk_lt P2);have R83:=below_blk hb3 R8 (blk_lt R8);have R93:=below_blk hb3 R9 (blk_lt R9);have RF3:=below_blk hb3 RF (blk_lt RF);have hb4:=hb2.trans (lower_below hb3 hb2.size);have f0:w3.cell? ⟨kf,0,none⟩=some (.int .i64 0):=(cell_blk RF3 _).trans rfl;have f1:w3.cell? ⟨kf,1,none⟩=some (.bool cp):=(cell_blk RF3 _).trans rfl;have f2:w3.cell? ⟨kf,2,none⟩=some (.int .i64 cq):=(cell_blk RF3 _).trans rfl;have g0:=frozen_blk RF3 0;have g1:=frozen_blk RF3 1;have g2:=frozen_blk RF3 2;clear P2 R8 R9 RF hb3 HIn2 p0 p1 p2 p3 hb2)))
  refine gen_world (Q:=fun W=>Code.wp _ _ _ _ W) _ (fun W=>W.heap[kp+1]?=some (.cells #[.int .i64 0,.slice none 0 0,.slice none 0 0,.int .i64 0,.int .i64 0] 34 (0,0))/\W.heap[kp+1+1]?=some (.cells #[.int .i64 0,.bool false,.int .i64 0] 36 (0,0))/\W.heap[kf]?=some (.cells #[.int .i64 ic',.bool ip,.int .i64 iq] 36 (0,0))/\Below w.heap.size w W) ⟨?_,?_,set3 RF3 _ _ _,below_set3 hb4 hkfb⟩ ?_
  ·rw [set_blk_ne _ _ (by omega),set_blk_ne _ _ (by omega),set_blk_ne _ _ (by omega)];exact R83
  ·rw [set_blk_ne _ _ (by omega),set_blk_ne _ _ (by omega),set_blk_ne _ _ (by omega)];exact R93
  clear P3 R83 R93 RF3 hb4 f0 f1 f2 g0 g1 g2
  rintro W4 ⟨R8,R9,RF,hb4⟩
  have hkf8:kp+1≠kf:=by omega
  have hkf9:kp+1+1≠kf:=by omega
  have y0:W4.cell? ⟨kf,0,none⟩=some (.int .i64 ic'):=(cell_blk RF _).trans rfl
  have y1:W4.cell? ⟨kf,1,none⟩=some (.bool ip):=(cell_blk RF _).trans rfl
  have y2:W4.cell? ⟨kf,2,none⟩=some (.int .i64 iq):=(cell_blk RF _).trans rfl
  have z0:W4.cell? ⟨kp+1,0,none⟩=some (.int .i64 0):=(cell_blk R8 _).trans rfl
  have z1:W4.cell? ⟨kp+1,1,none⟩=some (.slice none 0 0):=(cell_blk R8 _).trans rfl
  have z2:W4.cell? ⟨kp+1,2,none⟩=some (.slice none 0 0):=(cell_blk R8 _).trans rfl
  have z3:W4.cell? ⟨kp+1,3,none⟩=some (.int .i64 0):=(cell_blk R8 _).trans rfl
  have z4:W4.cell? ⟨kp+1,4,none⟩=some (.int .i64 0):=(cell_blk R8 _).trans rfl
  have z5:W4.cell? ⟨kp+1+1,0,none⟩=some (.int .i64 0):=(cell_blk R9 _).trans rfl
  have z6:W4.cell? ⟨kp+1+1,1,none⟩=some (.bool false):=(cell_blk R9 _).trans rfl
  have z7:W4.cell? ⟨kp+1+1,2,none⟩=some (.int .i64 0):=(cell_blk R9 _).trans rfl
  have v0:=frozen_blk R8 0
  have v1:=frozen_blk R8 1
  have v2:=frozen_blk R8 2
  have v3:=frozen_blk R8 3
  have v4:=frozen_blk R8 4
  have v5:=frozen_blk R9 0
  have v6:=frozen_blk R9 1
  have v7:=frozen_blk R9 2
  have R8h:=Lib.hid R8
  have R9h:=Lib.hid R9
  have HBB:=Lib.hid hb4
  clear R8 R9 RF hb4
  go_wp2_with fail
  refine start_ (n:=4) (S:=fun w'=>w'.cell? ⟨kf,0,none⟩=some (.int .i64 ic')/\w'.cell? ⟨kf,1,none⟩=some (.bool ip)/\w'.cell? ⟨kf,2,none⟩=some (.int .i64 iq)) (ds:=[3]) #[false,false,false,false] (by kernel_rfl) rfl rfl ⟨y0,y1,y2⟩ (fun hHeld=>?_)
  refine pure_ (i:=0) (N:=some 33) (v:=?_) (a':=?_) #[true,false,false,false] rfl rfl (by kernel_rfl) (fun _ _ _ h=>h) (Or.inl ⟨by rfl,?_⟩) ?_ ?_
  rotate_left
  ·intro w'
   go_simp
   with_reducible rfl
  rotate_left
  ·simp only [Act.put,List.setIfInBounds_toArray,List.set_cons_zero,List.set_cons_succ,i64_w,i32_w]
   rfl
  refine take_ (i:=1) (N:=some 34) (v:=?_) (a':=?_) #[true,true,false,false] rfl rfl (by kernel_rfl) (fun _ _ _ h=>h) (Or.inl ⟨by rfl,?_⟩) hHeld ?_ ?_
  rotate_left
  ·rintro w' ⟨s0,s1,s2⟩
   go_simp
   with_reducible rfl
  rotate_left
  ·simp only [Act.put,List.setIfInBounds_toArray,List.set_cons_zero,List.set_cons_succ,i64_w,i32_w]
   rfl
  refine one_ (i:=2) (N:=none) #[true,true,true,false] rfl rfl (by kernel_rfl) (by decide) (fun K hK=>?_)
  refine skip_ (w1:=?_) (by rfl) rfl ?_ ?_
  rotate_left
  ·go_simp
   rfl
  refine hK.out _ _ ⟨cell_set5d hkf8 y0 _ _ _ _ _,cell_set5d hkf8 y1 _ _ _ _ _,cell_set5d hkf8 y2 _ _ _ _ _⟩ (fun hHeld=>?_)
  clear hK K
  refine last_ (i:=3) (N:=none) #[true,true,true,true] rfl rfl (by kernel_rfl) (by decide) (fun K hK=>?_)
  go_simp
  refine hK.out _ _ ?_
  clear hK K
  refine done_ (by kernel_rfl) ?_
  refine gen_world (Q:=fun W=>Exit.then _ _ _ _ W) _ (fun W=>W.heap[kp+1]?=some (.cells #[.int .i64 0,.slice none 0 0,.slice none 0 0,.int .i64 0,.int .i64 0] 34 (0,0))/\W.heap[kp+1+1]?=some (.cells #[.int .i64 ic',.bool ip,.int .i64 iq] 36 (0,0))/\Below w.heap.size w W/\∀ t,34≠t->36≠t->Keeps W4 W t) (run_fin R8h.out R9h.out hbk (show Below w.heap.size w W4 from HBB) _ _ _ _ _ _ _ _) ?_
  clear hHeld y0 y1 y2 z0 z1 z2 z3 z4 z5 z6 z7 v0 v1 v2 v3 v4 v5 v6 v7
  rintro W9 ⟨h8,h9,hb9, -⟩
  have z0:W9.cell? ⟨kp+1,0,none⟩=some (.int .i64 0):=(cell_blk h8 _).trans rfl
  have z1:W9.cell? ⟨kp+1,1,none⟩=some (.slice none 0 0):=(cell_blk h8 _).trans rfl
  have z2:W9.cell? ⟨kp+1,2,none⟩=some (.slice none 0 0):=(cell_blk h8 _).trans rfl
  have z3:W9.cell? ⟨kp+1,3,none⟩=some (.int .i64 0):=(cell_blk h8 _).trans rfl
  have z4:W9.cell? ⟨kp+1,4,none⟩=some (.int .i64 0):=(cell_blk h8 _).trans rfl
  have z5:W9.cell? ⟨kp+1+1,0,none⟩=some (.int .i64 ic'):=(cell_blk h9 _).trans rfl
  have z6:W9.cell? ⟨kp+1+1,1,none⟩=some (.bool ip):=(cell_blk h9 _).trans rfl
  have z7:W9.cell? ⟨kp+1+1,2,none⟩=some (.int .i64 iq):=(cell_blk h9 _).trans rfl
  have hb9:=Lib.hid hb9
  clear h8 h9
  go_wp2_with fail
  exact bodyPost_ret (v:= .tuple #[.agg #[.int .i64 0,.slice none 0 0,.slice none 0 0,.int .i64 0,.int .i64 0],.agg #[.int .i64 ic',.bool ip,.int .i64 iq]]) (by simp [results,Tryz.results9,go_sem,z0,z1,z2,z3,z4,z5,z6,z7]) rfl ⟨rfl,hb9⟩
 ·have hrr2:fr=⟨cc,cp,cq⟩:=by rw [hrr,if_pos hz]
  clear hrr HIn
  subst hrr2
  clear hno
  have hne:((cc:Int) !=0)=true:=by simp [hz]
  have hne2:((cc:Int) == 0)=false:=by simp [hz]
  have hkf8:kp+1≠kf:=by omega
  have hkf9:kp+1+1≠kf:=by omega
  have y0:W2.cell? ⟨kf,0,none⟩=some (.int .i64 cc):=(cell_blk RF _).trans rfl
  have y1:W2.cell? ⟨kf,1,none⟩=some (.bool cp):=(cell_blk RF _).trans rfl
  have y2:W2.cell? ⟨kf,2,none⟩=some (.int .i64 cq):=(cell_blk RF _).trans rfl
  have z0:W2.cell? ⟨kp+1,0,none⟩=some (.int .i64 0):=(cell_blk R8 _).trans rfl
  have z1:W2.cell? ⟨kp+1,1,none⟩=some (.slice none 0 0):=(cell_blk R8 _).trans rfl
  have z2:W2.cell? ⟨kp+1,2,none⟩=some (.slice none 0 0):=(cell_blk R8 _).trans rfl
  have z3:W2.cell? ⟨kp+1,3,none⟩=some (.int .i64 0):=(cell_blk R8 _).trans rfl
  have z4:W2.cell? ⟨kp+1,4,none⟩=some (.int .i64 0):=(cell_blk R8 _).trans rfl
  have z5:W2.cell? ⟨kp+1+1,0,none⟩=some (.int .i64 0):=(cell_blk R9 _).trans rfl
  have z6:W2.cell? ⟨kp+1+1,1,none⟩=some (.bool false):=(cell_blk R9 _).trans rfl
  have z7:W2.cell? ⟨kp+1+1,2,none⟩=some (.int .i64 0):=(cell_blk R9 _).trans rfl
  have v0:=frozen_blk R8 0
  have v1:=frozen_blk R8 1
  have v2:=frozen_blk R8 2
  have v3:=frozen_blk R8 3
  have v4:=frozen_blk R8 4
  have v5:=frozen_blk R9 0
  have v6:=frozen_blk R9 1
  have v7:=frozen_blk R9 2
  have R8h:=Lib.hid R8
  have R9h:=Lib.hid R9
  have HBB:=Lib.hid hb2
  clear R8 R9 RF hb2
  go_wp2_with fail
  refine start_ (n:=4) (S:=fun w'=>w'.cell? ⟨kf,0,none⟩=some (.int .i64 cc)/\w'.cell? ⟨kf,1,none⟩=some (.bool cp)/\w'.cell? ⟨kf,2,none⟩=some (.int .i64 cq)) (ds:=[3]) #[false,false,false,false] (by kernel_rfl) rfl rfl ⟨y0,y1,y2⟩ (fun hHeld=>?_)
  refine pure_ (i:=0) (N:=some 33) (v:=?_) (a':=?_) #[true,false,false,false] rfl rfl (by kernel_rfl) (fun _ _ _ h=>h) (Or.inl ⟨by rfl,?_⟩) ?_ ?_
  rotate_left
  ·intro w'
   go_simp
   with_reducible rfl
  rotate_left
  ·simp only [Act.put,List.setIfInBounds_toArray,List.set_cons_zero,List.set_cons_succ,i64_w,i32_w]
   rfl
  refine take_ (i:=1) (N:=some 34) (v:=?_) (a':=?_) #[true,true,false,false] rfl rfl (by kernel_rfl) (fun _ _ _ h=>h) (Or.inl ⟨by rfl,?_⟩) hHeld ?_ ?_
  rotate_left
  ·rintro w' ⟨s0,s1,s2⟩
   go_simp
   with_reducible rfl
  rotate_left
  ·simp only [Act.put,List.setIfInBounds_toArray,List.set_cons_zero,List.set_cons_succ,i64_w,i32_w]
   rfl
  refine one_ (i:=2) (N:=none) #[true,true,true,false] rfl rfl (by kernel_rfl) (by decide) (fun K hK=>?_)
  refine skip_ (w1:=?_) (by rfl) rfl ?_ ?_
  rotate_left
  ·go_simp
   rfl
  refine hK.out _ _ ⟨cell_set5d hkf8 y0 _ _ _ _ _,cell_set5d hkf8 y1 _ _ _ _ _,cell_set5d hkf8 y2 _ _ _ _ _⟩ (fun hHeld=>?_)
  clear hK K
  refine last_ (i:=3) (N:=none) #[true,true,true,true] rfl rfl (by kernel_rfl) (by decide) (fun K hK=>?_)
  go_simp
  refine hK.out _ _ ?_
  clear hK K
  refine done_ (by kernel_rfl) ?_
  refine gen_world (Q:=fun W=>Exit.then _ _ _ _ W) _ (fun W=>W.heap[kp+1]?=some (.cells #[.int .i64 0,.slice none 0 0,.slice none 0 0,.int .i64 0,.int .i64 0] 34 (0,0))/\W.heap[kp+1+1]?=some (.cells #[.int .i64 cc,.bool cp,.int .i64 cq] 36 (0,0))/\Below w.heap.size w W/\∀ t,34≠t->36≠t->Keeps W2 W t) (run_fin R8h.out R9h.out hbk (show Below w.heap.size w W2 from HBB) _ _ _ _ _ _ _ _) ?_
  clear hHeld y0 y1 y2 z0 z1 z2 z3 z4 z5 z6 z7 v0 v1 v2 v3 v4 v5 v6 v7
  rintro W9 ⟨h8,h9,hb9, -⟩
  have z0:W9.cell? ⟨kp+1,0,none⟩=some (.int .i64 0):=(cell_blk h8 _).trans rfl
  have z1:W9.cell? ⟨kp+1,1,none⟩=some (.slice none 0 0):=(cell_blk h8 _).trans rfl
  have z2:W9.cell? ⟨kp+1,2,none⟩=some (.slice none 0 0):=(cell_blk h8 _).trans rfl
  have z3:W9.cell? ⟨kp+1,3,none⟩=some (.int .i64 0):=(cell_blk h8 _).trans rfl
  have z4:W9.cell? ⟨kp+1,4,none⟩=some (.int .i64 0):=(cell_blk h8 _).trans rfl
  have z5:W9.cell? ⟨kp+1+1,0,none⟩=some (.int .i64 cc):=(cell_blk h9 _).trans rfl
  have z6:W9.cell? ⟨kp+1+1,1,none⟩=some (.bool cp):=(cell_blk h9 _).trans rfl
  have z7:W9.cell? ⟨kp+1+1,2,none⟩=some (.int .i64 cq):=(cell_blk h9 _).trans rfl
  have hb9:=Lib.hid hb9
  clear h8 h9
  go_wp2_with fail
  exact bodyPost_ret (v:= .tuple #[.agg #[.int .i64 0,.slice none 0 0,.slice none 0 0,.int .i64 0,.int .i64 0],.agg #[.int .i64 cc,.bool cp,.int .i64 cq]]) (by simp [results,Tryz.results9,go_sem,z0,z1,z2,z3,z4,z5,z6,z7]) rfl ⟨rfl,hb9⟩
end Go.Proofs.YtkplfaionpplaaaGreatDoor
namespace Go.Proofs.YtkplfaionpplaaaGreatDoor
open Go.RowKit
theorem IntsAt.below {w w':World}{v:Value}{l:List Int}(h:IntsAt w v l)(hb:Below w.heap.size w w'):IntsAt w' v l:=by
 rcases h with h|⟨g,c,cur,h,h1,h2⟩
 ·exact .inl h
 ·exact .inr ⟨g,c,cur,h,below_blk hb h1 (blk_lt h1),h2⟩
theorem take_step {α:Type}{A B:List α}{j:Nat}(hA:j<A.length)(hB:j<B.length)(h:A.take j=B.take j)(e:A[j]=B[j]):A.take (j+1)=B.take (j+1):=by
 rw [List.take_succ_eq_append_getElem hA,List.take_succ_eq_append_getElem hB,h,e]
theorem ne_at {α:Type}{A B:List α}{j:Nat}(hA:j<A.length)(hB:j<B.length)(e:A[j]≠B[j]):A≠B:=fun h=>by subst h;exact e rfl
theorem same_ints {w:World}{a a2:Option Addr}{cap cap2:Nat}{A B:List Int}(h:IntsAt w (.slice a A.length cap) A)(h2:IntsAt w (.slice a2 B.length cap2) B)(hL:A.length<1000000000000):
  Calls Tryz.prog 46 #[.slice a A.length cap,.slice a2 B.length cap2] w fun e w'=>e= .returned (.bool (decide (A=B)))/\Below w.heap.size w w':=by
 have H:=Lib.hid h
 have H2:=Lib.hid h2
 clear h h2
 by_cases hl:A.length=B.length
 case neg=>
  have z:((A.length:Int) !=(B.length:Int))=true:=by simp;omega
  have z2:((A.length:Int) == (B.length:Int))=false:=by simp;omega
  have zz:decide (A=B)=false:=decide_eq_false fun e=>hl (by rw [e])
  rw [zz]
  clear zz
  go_enter Tryz.func46,Tryz.ntmps46
  go_wp2_with fail
  exact bodyPost_ret (v:= .bool false) (by simp [results,Tryz.results46,go_sem]) rfl ⟨rfl,Below.refl _ _⟩
 obtain⟨n,hn⟩:∃ n,n=A.length:=⟨_,rfl⟩
 have HA:Hid (A.length=n):=Lib.hid hn.symm
 have HB:Hid (B.length=n):=Lib.hid (by omega)
 rw [<-hl,<-hn]
 rw [<-hn] at hL
 have z:((n:Int) == (n:Int))=true:=beq_self_eq_true _
 have z2:((n:Int) !=(n:Int))=false:=by simp
 clear hn hl
 go_enter Tryz.func46,Tryz.ntmps46
 go_wp2_with fail
 go_loopg [5] (n+1) (fun gk v5 w'=>∃ j:Nat,v5= .int .i64 j/\j+gk=n+1/\j<=n/\Hid (Below w.heap.size w w'/\A.take j=B.take j))
 case atStart=>exact⟨0,rfl,by omega,by omega,Lib.hid ⟨Below.refl _ _,rfl⟩⟩
 case round=>
  obtain⟨j,rfl,hj,hj2,HR⟩:=hrel
  obtain⟨hB,hT⟩:=show Below w.heap.size w wr/\A.take j=B.take j from HR
  have lA:=show A.length=n from HA
  have lB:=show B.length=n from HB
  by_cases hjl:j<n
  ·obtain⟨k1,rfl⟩:∃ k1,gk=k1+1:=⟨gk - 1,by omega⟩
   obtain⟨g,rfl,c0⟩:=ints_get (show IntsAt w (.slice a A.length cap) A from H) (j:=j) (by omega)
   obtain⟨g2,rfl,d0⟩:=ints_get (show IntsAt w (.slice a2 B.length cap2) B from H2) (j:=j) (by omega)
   replace c0:=cell_since hB c0
   replace d0:=cell_since hB d0
   have t1:decide ((j:Int)<(n:Int))=true:=by simp;omega
   have t2:(0:Int)<=(j:Int):=by omega
   have t3:(j:Int)<(n:Int):=by omega
   obtain⟨x,hx⟩:∃ x,x=A[j]:=⟨_,rfl⟩
   obtain⟨y,hy⟩:∃ y,y=B[j]:=⟨_,rfl⟩
   rw [<-hx] at c0
   rw [<-hy] at d0
   by_cases e:x=y
   ·have hN:Hid (Below w.heap.size w wr.drew/\A.take (j+1)=B.take (j+1)):=Lib.hid ⟨below_drew' hB,take_step (by omega) (by omega) hT (by rw [<-hx,<-hy,e])⟩
    have e1:(x == y)=true:=by simp [e]
    clear hx hy e hT lA lB
    go_wp2_with fail
    go_still_tail 9,(by kernel_rfl)
    go_wp2_with fail
    go_roundg k1
    case measure=>omega
    case rel=>exact⟨j+1,by simp,by omega,by omega,hN⟩
   ·have e1:(x == y)=false:=by simp [e]
    have zz:decide (A=B)=false:=decide_eq_false (ne_at (j:=j) (by omega) (by omega) (by rw [<-hx,<-hy];exact e))
    replace zz:=Lib.hid zz
    clear hx hy e hT lA lB
    go_wp2_with fail
    go_still_tail 9,(by kernel_rfl)
    go_wp2_with fail
    exact bodyPost_ret (v:= .bool false) (by simp [results,Tryz.results46,go_sem]) rfl ⟨by rw [zz.out],below_drew' hB⟩
  ·have hje:j=n:=by omega
   have t1:decide ((j:Int)<(n:Int))=false:=by simp;omega
   have zz:decide (A=B)=true:=decide_eq_true (by rw [List.take_of_length_le (by omega),List.take_of_length_le (by omega)] at hT;exact hT)
   replace zz:=Lib.hid zz
   clear hT lA lB
   go_wp2_with fail
   exact bodyPost_ret (v:= .bool true) (by simp [results,Tryz.results46,go_sem]) rfl ⟨by rw [zz.out],hB⟩
theorem EvR.len {w:World}{B:Nat}:∀ {l:List Al.Ev} {cs:List Value},EvR w B l cs->cs.length=l.length * 3
 |[],cs,h=>by rw [show cs=[] from h];rfl
 |e :: l,cs,h=>by
  obtain⟨v,rest,rfl, -,h2⟩:=h
  have:=EvR.len h2
  simp [this]
  omega
theorem EvR.at {w:World}{B:Nat}:∀ {l:List Al.Ev} {cs:List Value},EvR w B l cs->∀ k (hk:k<l.length),∃ v,cs[k * 3]?=some (.int .i64 l[k].kind)/\cs[k * 3+1]?=some (.bool l[k].yes)/\cs[k * 3+2]?=some v/\w.ownsRow B 3 1 v l[k].vec.length (intsV l[k].vec)
 |[],cs,h=>fun k hk=>by simp at hk
 |e :: l,cs,h=>fun k hk=>by
  obtain⟨v,rest,rfl,hv,h2⟩:=h
  cases k with
  |zero=>exact⟨v,rfl,rfl,rfl,hv⟩
  |succ k=>
   obtain⟨u,a,b,c,d⟩:=EvR.at h2 k (by simpa using hk)
   exact⟨u,by rw [show (k+1) * 3=k * 3+1+1+1 by omega];exact a,by rw [show (k+1) * 3+1=(k * 3+1)+1+1+1 by omega];exact b,by rw [show (k+1) * 3+2=(k * 3+2)+1+1+1 by omega];exact c,d⟩
end Go.Proofs.YtkplfaionpplaaaGreatDoor
namespace Go.Proofs.YtkplfaionpplaaaGreatDoor.Al
end Go.Proofs.YtkplfaionpplaaaGreatDoor.Al
set_option linter.unusedVariables false
namespace Go.Proofs.YtkplfaionpplaaaGreatDoor
open Go.RowKit Go.Proofs.YtkplfaionpplaaaGreatDoorW.PrintLast Go.Proofs.YtkplfaionpplaaaGreatDoorW.PrintWords
def RunAny (w:World)(p:Al.Prog)(ins:List (List Int))(tape:List Int)(F:Nat)(e:Ending)(w':World):Prop:=
 ((runF p ins tape F).code≠0/\e= .returned (.tuple #[.agg #[.int .i64 0,.slice none 0 0,.slice none 0 0,.int .i64 0,.int .i64 0],faultV (runF p ins tape F)])/\Below w.heap.size w w')\/
 ((Al.checkF p).code=0/\(Al.inputsF p.q p.n p.vars ins tape F).code=0/\RunPost w p (Al.exF p ins tape F) e w')
theorem run_any {w:World}{p:Al.Prog}{Va Ab Ia Ta:Option Addr}{vc cb ic tc:Nat}{ins:List (List Int)}{tape:List Int}{F:Nat}(hp:PLies w p Va Ab vc cb)(hfl:(Al.flatL p.body).length<=100)(hvl:p.vars.length<=1000)(hil:ins.length<=1000000)
  (hi:Kd.C (Kd.slice 3 (Kd.int .i64)) w Ia ins.length ins) (hT:(Kd.int .u32).C w Ta tape.length tape) (ht:∀ t∈tape,0<=t/\t<4294967296) (hf:F<=100000000):
  Calls Tryz.prog 9 #[.agg #[.int .i64 p.q,.int .i64 p.n,.slice Va p.vars.length vc,.slice Ab p.body.length cb],.slice Ia ins.length ic,.slice Ta tape.length tc,.int .i64 F] w (RunAny w p ins tape F):=by
 by_cases h:(runF p ins tape F).code≠0
 ·refine (run_no (Ta:=Ta) (ic:=ic) (tc:=tc) hp hfl hvl hil h hi).mono ?_
  rintro e w' ⟨rfl,hb⟩
  exact .inl ⟨h,rfl,hb⟩
 ·have h0:(runF p ins tape F).code=0:=by omega
  unfold runF at h0
  by_cases hc:(Al.checkF p).code≠0
  ·rw [if_pos hc] at h0;exact absurd h0 hc
  rw [if_neg hc] at h0
  have hc0:(Al.checkF p).code=0:=by omega
  exact (ref_run (ic:=ic) (tc:=tc) hp (Al.fine_of_check hc0) hc0 h0 hi hT ht hf).mono fun e w' H=> .inr ⟨hc0,h0,H⟩
end Go.Proofs.YtkplfaionpplaaaGreatDoor
namespace Go.Proofs.YtkplfaionpplaaaGreatDoor
open Go.RowKit Go.Proofs.YtkplfaionpplaaaGreatDoorW.PrintWords
theorem lower_tape (w:World)(q n:Int)(a:Option Addr)(nv cap:Nat)(A6:Option Addr)(n6 c6:Nat)(h:Al.ringOk q n=true)(hv:nv<=12):Calls Tryz.prog 26 #[.agg #[.int .i64 q,.int .i64 n,.slice a nv cap,.slice A6 n6 c6]] w fun e w'=>e= .returned (.int .i64 (2+n * nv))/\Below w.heap.size w w':=by
 have hn:0<=n/\n<=256:=by
  have h2:Al.isSize n=true:=by unfold Al.ringOk at h;simp at h;exact h.2
  have:=Al.size_facts h2;omega
 obtain⟨W,hW⟩:∃ W,W=w.alloc (.cells #[.int .i64 q,.int .i64 n,.slice a nv cap,.slice A6 n6 c6] 27):=⟨_,rfl⟩
 have hb0:Below w.heap.size w W:=by rw [hW];exact (Below.refl _ _).alloc (Nat.le_refl _) _
 obtain⟨kp,hkp⟩:∃ kp,kp=w.heap.size:=⟨_,rfl⟩
 have P0:W.heap[kp]?=some (.cells #[.int .i64 q,.int .i64 n,.slice a nv cap,.slice A6 n6 c6] 27 (0,0)):=by rw [hW,hkp];exact heap_alloc_new w _
 have HV:=valid_yes W q n h
 go_enter Tryz.func26,Tryz.ntmps26
 go_wp2_with fail
 rw [<-hW]
 simp only [<-hkp]
 replace hkp:=Lib.hid hkp
 clear hW
 go_wp2_with (first
  |(go_at_call 61;refine HV.mono ?_;rintro e w1 ⟨rfl,hb1⟩;have P1:=below_blk hb1 P0 (blk_lt P0);have hb2:=hb0.trans (lower_below hb1 hb0.size);have c0:w1.cell? ⟨kp,0,none⟩=some (.int .i64 q):=(cell_blk P1 _).trans rfl;have c1:w1.cell? ⟨kp,1,none⟩=some (.int .i64 n):=(cell_blk P1 _).trans rfl;have c2:w1.cell? ⟨kp,2,none⟩=some (.slice a nv cap):=(cell_blk P1 _).trans rfl;have c3:w1.cell? ⟨kp,3,none⟩=some (.slice A6 n6 c6):=(cell_blk P1 _).trans rfl)
  |(go_at_call 55;refine (end_any _ q n a nv cap _ hn hv).mono ?_;rintro e w3 ⟨rfl,hb3⟩))
 exact bodyPost_ret (v:= .int .i64 (2+n * nv)) (by simp [results,Tryz.results26,go_sem]) rfl ⟨rfl,hb2.trans (lower_below hb3 hb2.size)⟩
def prog0:Al.Prog:=⟨17,4,[⟨1,false⟩,⟨2,false⟩,⟨3,false⟩],[]⟩
theorem prog0_fine:Al.Fine prog0:=Al.fine_of_check (by decide)
theorem prog0_lies {w:World}{k:Nat}(h:w.heap[k]?=some (.cells #[.int .i64 1,.bool false,.int .i64 2,.bool false,.int .i64 3,.bool false] 81 (0,0))):PLies w prog0 (some ⟨k,0,none⟩) none 3 0:=by
 refine⟨⟨rfl,by decide,fun _=>⟨_,rfl,fun j p hj=>?_⟩⟩,Kd.C_nil _ _,by decide⟩
 have hc:∀ i,w.cell? ⟨k,i,none⟩=(#[Value.int .i64 1,.bool false,.int .i64 2,.bool false,.int .i64 3,.bool false]:Array Value)[i]?:=fun i=>cell_blk h i
 have ha:∀ m,w.cell? ((⟨k,0,none⟩:Addr).add m)=(#[Value.int .i64 1,.bool false,.int .i64 2,.bool false,.int .i64 3,.bool false]:Array Value)[m]?:=fun m=>by
  have e:(⟨k,0,none⟩:Addr).add m=⟨k,m,none⟩:=by simp [Addr.add];try omega
  rw [e,hc]
 refine⟨[.int .i64 p.kind,.bool p.secret],rfl,kVar_mk w p,fun i u hu=>?_⟩
 rw [ha]
 have hj3:j<3:=(List.getElem?_eq_some_iff.1 hj).1
 have hi2:i<2:=(List.getElem?_eq_some_iff.1 hu).1
 have hjj:j=0\/j=1\/j=2:=by omega
 have hii:i=0\/i=1:=by omega
 rcases hjj with rfl|rfl|rfl<;> rcases hii with rfl|rfl<;> (cases hj;cases hu;rfl)
theorem first_any (w:World):Calls Tryz.prog 7 #[] w fun e w'=>e= .returned (.bool true)/\Below w.heap.size w w':=by
 obtain⟨W,hW⟩:∃ W,W=(w.alloc (.cells #[.int .i64 1,.bool false,.int .i64 2,.bool false,.int .i64 3,.bool false] 81)).alloc (.cells #[.int .i64 17,.int .i64 4,.slice (some ⟨w.heap.size,0,none⟩) 3 3,.slice none 0 0] 27):=⟨_,rfl⟩
 have hb0:Below w.heap.size w W:=by rw [hW];exact alloc_two _ _ _
 obtain⟨kv,hkv⟩:∃ kv,kv=w.heap.size:=⟨_,rfl⟩
 have V0:W.heap[kv]?=some (.cells #[.int .i64 1,.bool false,.int .i64 2,.bool false,.int .i64 3,.bool false] 81 (0,0)):=by rw [hW,hkv];exact alloc_blk _ (heap_alloc_new w _)
 have P0:W.heap[kv+1]?=some (.cells #[.int .i64 17,.int .i64 4,.slice (some ⟨kv,0,none⟩) 3 3,.slice none 0 0] 27 (0,0)):=by rw [hW,hkv];exact alloc_at _ _ _
 have HL0:=lower_fine prog0_fine (prog0_lies V0)
 have HL:Calls Tryz.prog 10 #[.agg #[.int .i64 17,.int .i64 4,.slice (some ⟨kv,0,none⟩) 3 3,.slice none 0 0]] W fun e w'=>∃ a n c a2 n2 c2,e= .returned (.tuple #[.agg #[.slice a n c,.int .i64 24,.int .i64 4114],.slice a2 n2 c2,Value.nilIface])/\Below W.heap.size W w':=by
  refine Calls.mono HL0 ?_
  rintro e w1 ⟨vi,vs,rfl,h1,h2,hb⟩
  obtain⟨a,c,rfl⟩:=own_slice h1
  obtain⟨a2,c2,rfl⟩:=own_slice h2
  exact⟨a,_,c,a2,_,c2,rfl,hb⟩
 clear HL0
 have HT:=fun w0=>lower_tape w0 17 4 (some ⟨kv,0,none⟩) 3 3 none 0 0 (by decide) (by decide)
 have HP:=fun w0=>place_yes w0 17 4 1 (some ⟨kv,0,none⟩) 3 3 (.slice none 0 0) (by decide) (by decide) (by decide) (by decide)
 have e1:(2:Int)+4 * ((3:Nat):Int)=14:=by decide
 have e2:(2:Int)+4 * 1=6:=by decide
 rw [e2] at HP
 simp only [e1] at HT
 clear e1 e2
 go_enter Tryz.func7,Tryz.ntmps7
 go_wp2_with fail
 rw [<-hW]
 simp only [<-hkv]
 replace hkv:=Lib.hid hkv
 clear hW
 go_upto_region 3 with (go_at_call 10;refine HL.mono ?_;rintro e w1 ⟨a,n,c,a2,n2,c2,rfl,hb1⟩;have V1:=below_blk hb1 V0 (blk_lt V0);have P1:=below_blk hb1 P0 (blk_lt P0);have hb2:=hb0.trans (lower_below hb1 hb0.size);clear HL V0 P0)
 refine gen_world (Q:=fun W=>Code.wp _ _ _ _ W) _ (fun W=>W.heap[kv+1]?=some (.cells #[.int .i64 17,.int .i64 4,.slice (some ⟨kv,0,none⟩) 3 3,.slice none 0 0] 27 (0,0))/\W.heap[w1.heap.size]?=some (.cells #[.slice a n c,.int .i64 24,.int .i64 4114] 41 (0,0))/\Below w.heap.size w W) ⟨alloc_blk _ P1,heap_alloc_new w1 _,hb2.alloc (Nat.le_trans hb0.size hb1.size) _⟩ ?_
 rintro W2 ⟨P2,C2,hb4⟩
 obtain⟨kc,hkc⟩:∃ kc,kc=w1.heap.size:=⟨_,rfl⟩
 rw [<-hkc] at C2
 simp only [<-hkc]
 replace hkc:=Lib.hid hkc
 clear V1 P1 hb1 hb2
 have c0:W2.cell? ⟨kv+1,0,none⟩=some (.int .i64 17):=(cell_blk P2 _).trans rfl
 have c1:W2.cell? ⟨kv+1,1,none⟩=some (.int .i64 4):=(cell_blk P2 _).trans rfl
 have c2:W2.cell? ⟨kv+1,2,none⟩=some (.slice (some ⟨kv,0,none⟩) 3 3):=(cell_blk P2 _).trans rfl
 have c3:W2.cell? ⟨kv+1,3,none⟩=some (.slice none 0 0):=(cell_blk P2 _).trans rfl
 go_wp2_with (first
  |(go_at_call 26;refine (HT _).mono ?_;rintro e w3 ⟨rfl,hb5⟩;have P3:=below_blk hb5 P2 (blk_lt P2);have C3:=below_blk hb5 C2 (blk_lt C2);have hb6:=hb4.trans (lower_below hb5 hb4.size);have d0:w3.cell? ⟨kv+1,0,none⟩=some (.int .i64 17):=(cell_blk P3 _).trans rfl;have d1:w3.cell? ⟨kv+1,1,none⟩=some (.int .i64 4):=(cell_blk P3 _).trans rfl;have d2:w3.cell? ⟨kv+1,2,none⟩=some (.slice (some ⟨kv,0,none⟩) 3 3):=(cell_blk P3 _).trans rfl;have d3:w3.cell? ⟨kv+1,3,none⟩=some (.slice none 0 0):=(cell_blk P3 _).trans rfl)
  |(go_at_call 28;refine (HP _).mono ?_;rintro e w4 ⟨rfl,hb7⟩;have C4:=below_blk hb7 C3 (blk_lt C3);have hb8:=hb6.trans (lower_below hb7 hb6.size);have e2:w4.cell? ⟨kc,2,none⟩=some (.int .i64 4114):=(cell_blk C4 _).trans rfl))
 exact bodyPost_ret (v:= .bool true) (by simp [results,Tryz.results7,go_sem]) rfl ⟨rfl,hb8⟩
end Go.Proofs.YtkplfaionpplaaaGreatDoor
