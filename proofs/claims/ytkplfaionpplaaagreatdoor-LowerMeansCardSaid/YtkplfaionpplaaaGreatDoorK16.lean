/- Part 16: B33, B34, B35, B36, B37, B38. -/
import Derived.Test.YtkplfaionpplaaaGreatDoorK15
set_option maxRecDepth 100000
set_option maxHeartbeats 6400000
set_option linter.unusedVariables false
set_option linter.unusedSimpArgs false
namespace Go.Proofs.YtkplfaionpplaaaGreatDoor
open Go.RowKit Go.Proofs.YtkplfaionpplaaaGreatDoorW.PrintWords Go.Proofs.YtkplfaionpplaaaGreatDoorW.PrintLast
theorem depthS_nonneg (s:Al.Stmt):0<=Al.depthS s:=by cases s;unfold Al.depthS;omega
theorem depthL_ge:∀ (l:List Al.Stmt), -1<=Al.depthL l
 |[]=>by simp [Al.depthL]
 |s :: l=>by have:=depthS_nonneg s;simp only [Al.depthL];omega
theorem depth_get:∀ (l:List Al.Stmt) (i:Nat) (h:i<l.length),Al.depthS l[i]<=Al.depthL l
 |[],i,h=>by simp at h
 |s :: l,0,h=>by simp only [Al.depthL,List.getElem_cons_zero];omega
 |s :: l,i+1,h=>by have:=depth_get l i (by simpa using h);simp only [Al.depthL,List.getElem_cons_succ];omega
theorem depth_body (s:Al.Stmt):Al.depthL s.body+1<=Al.depthS s/\Al.depthL s.els+1<=Al.depthS s:=by
 cases s;unfold Al.depthS;dsimp only;omega
theorem flatL_append:∀ (l m:List Al.Stmt),Al.flatL (l++m)=Al.flatL l++Al.flatL m
 |[],m=>by simp [Al.flatL]
 |s :: l,m=>by simp only [List.cons_append,Al.flatL,flatL_append l m,List.append_assoc]
theorem flatS_eq (s:Al.Stmt):Al.flatS s=s :: (Al.flatL s.body++Al.flatL s.els):=by cases s;simp [Al.flatS]
theorem flatL_one (s:Al.Stmt):Al.flatL [s]=Al.flatS s:=by simp [Al.flatL]
theorem flatL_len:∀ (l:List Al.Stmt),l.length<=(Al.flatL l).length
 |[]=>by simp
 |s :: l=>by have:=flatL_len l;simp only [Al.flatL,List.length_append,flatS_eq,List.length_cons];omega
section
variable (W0:World) (f:FuncId) (caps:List Value) (N:Nat) (P:Al.Stmt->Prop) (I:Nat->World->Prop) (F:Nat->Prop)
def VisitC:Prop:=∀ (j:Nat) (w:World) (s:Al.Stmt) (A6 A7:Option Addr) (c6 c7:Nat) (deep:Nat),P s->deep<=6->j<N->kStmt.C W0 A6 s.body.length s.body->kStmt.C W0 A7 s.els.length s.els->I j w->
 Calls Tryz.prog f ((Value.agg (stmtV s (.slice A6 s.body.length c6) (.slice A7 s.els.length c7)) :: Value.int .i64 deep :: caps).toArray) w fun e w'=>e= .returned (.bool true)/\I (j+1) w'/\Chg w w' F F
def EachC (m:Nat):Prop:=∀ (l:List Al.Stmt) (A:Option Addr) (cap:Nat) (deep j:Nat) (w:World),Al.depthL l<m->kStmt.C W0 A l.length l->l.length<=cap->(∀ s∈Al.flatL l,P s)->deep+Al.depthL l<=6->j+(Al.flatL l).length<=N->I j w->
 Calls Tryz.prog 141 #[.slice A l.length cap,.int .i64 deep,.func (.func f) #[] caps.toArray] w fun e w'=>e= .returned (.bool true)/\I (j+(Al.flatL l).length) w'/\Chg w w' F F
end
theorem each_step {W0:World}{f:FuncId}{caps:List Value}{N:Nat}{P:Al.Stmt->Prop}{I:Nat->World->Prop}{F:Nat->Prop}{n0:Nat}(hF:∀ k,F k->k<n0)(hN:N<=1000){fn:Func}(hfn:Tryz.prog.funcs[f]?=some fn)(hname:(fn.name == "runtime.NumGoroutine")=false)(hbody:fn.body.isSome=true)
  (hI:∀ j w,I j w->Below W0.heap.size W0 w/\n0<=w.heap.size) (hstep:∀ j w w',I j w->Below w.heap.size w w'->I j w') (hf:VisitC W0 f caps N P I F) (m:Nat) (hm:0<m->EachC W0 f caps N P I F (m - 1)):EachC W0 f caps N P I F m:=by
 intro l A cap deep j w hd hl hcap hP hdeep hj hi
 have hll:=flatL_len l
 have HL:=Lib.hid hl
 have HI:=Lib.hid hi
 clear hl hi
 go_enter Tryz.func141,Tryz.ntmps141
 go_wp2_with fail
 go_loopg [8,11] (l.length+1) (fun gk v8 v11 w'=>∃ i:Nat,v11= .int .i64 i/\i+gk=l.length+1/\i<=l.length/\Hid (I (j+(Al.flatL (l.take i)).length) w'/\Chg w w' F F))
 case atStart=>exact⟨0,rfl,by omega,by omega,show _/\_ from⟨by simpa [Al.flatL] using (show I j w from HI),Chg.refl _ _⟩⟩
 case round=>
  obtain⟨i,rfl,hg,hi2,HR⟩:=hrel
  by_cases hil:i<l.length
  ·obtain⟨k1,rfl⟩:∃ k1,gk=k1+1:=⟨gk - 1,by omega⟩
   obtain⟨hR,hC⟩:=show I _ wr/\Chg w wr F F from HR
   obtain⟨hB1,hn0⟩:=hI _ _ hR
   obtain⟨ad,A6,c6,A7,c7,rfl,d0,d1,d2,d3,d4,d5,d6,d7,l6,g6,l7,g7⟩:=at_T902 (show kStmt.C W0 A l.length l from HL) (i:Int) (by omega) (by omega)
   replace d0:=cell_since hB1 d0
   replace d1:=cell_since hB1 d1
   replace d2:=cell_since hB1 d2
   replace d3:=cell_since hB1 d3
   replace d4:=cell_since hB1 d4
   replace d5:=cell_since hB1 d5
   replace d6:=cell_since hB1 d6
   replace d7:=cell_since hB1 d7
   simp only [Int.toNat_natCast] at d0 d1 d2 d3 d4 d5 d6 d7
   obtain⟨s,hs⟩:∃ s,s=rd_T902 l (i:Int):=⟨_,rfl⟩
   simp only [<-hs] at d0 d1 d2 d3 d4 d5 d6 d7 l6 g6 l7 g7
   rw [rd_get l i hil] at hs
   have hds:=depth_get l i hil
   rw [<-hs] at hds
   have hdn:=depthS_nonneg s
   have hdb:=depth_body s
   have htk:Al.flatL (l.take (i+1))=Al.flatL (l.take i)++Al.flatS s:=by rw [take_succ l i hil,flatL_append,flatL_one,hs]
   have hpre:∃ r,Al.flatL l=Al.flatL (l.take (i+1))++r:=⟨Al.flatL (l.drop (i+1)),by rw [<-flatL_append,List.take_append_drop]⟩
   obtain⟨r,hr⟩:=hpre
   have hPs:∀ t∈Al.flatS s,P t:=fun t ht=>hP t (by rw [hr,htk];simp [ht])
   have hln:(Al.flatL l).length=(Al.flatL (l.take i)).length+(Al.flatS s).length+r.length:=by rw [hr,htk];simp only [List.length_append]
   have hfs:(Al.flatS s).length=1+(Al.flatL s.body).length+(Al.flatL s.els).length:=by rw [flatS_eq];simp;omega
   have htl:(Al.flatL (l.take (i+1))).length=(Al.flatL (l.take i)).length+(Al.flatS s).length:=by rw [htk,List.length_append]
   replace hs:=Lib.hid hs
   have r0:(0:Int)<=(i:Int):=by omega
   have r1:(i:Int)<(l.length:Int):=by omega
   have r2:decide ((i:Int)<(l.length:Int))=true:=decide_eq_true r1
   have hbw:Below wr.heap.size wr (wr.alloc (.cells (stmtV s (.slice A6 s.body.length c6) (.slice A7 s.els.length c7)) 66)):=(Below.refl _ _).alloc (Nat.le_refl _) _
   have hR1:=hstep _ _ _ hR hbw
   have HV:=hf _ _ s A6 A7 c6 c7 deep (hPs s (by rw [flatS_eq];simp)) (by omega) (by omega) g6 g7 hR1
   have hbx:(wr.alloc (.cells (stmtV s (.slice A6 s.body.length c6) (.slice A7 s.els.length c7)) 66)).heap[wr.heap.size]?=some (.cells (stmtV s (.slice A6 s.body.length c6) (.slice A7 s.els.length c7)) 66 (0,0)):=heap_alloc_new wr _
   have hnF:¬F wr.heap.size:=fun h=>by have:=hF _ h;omega
   have hC1:=hC.trans (Chg.of_below F hbw)
   unfold stmtV at HV hC1 hbx
   clear hR hR1 HR hbw
   obtain⟨J,hJ⟩:∃ J,J=j+(Al.flatL (l.take i)).length:=⟨_,rfl⟩
   rw [<-hJ] at HV
   have hm1:=hm (by omega)
   replace htl:=Lib.hid htl
   replace hln:=Lib.hid hln
   replace hfs:=Lib.hid hfs
   replace hJ:=Lib.hid hJ
   replace hr:=Lib.hid hr
   replace htk:=Lib.hid htk
   go_wp2_with fail
   rw [enters_ hfn hname hbody,Oper.upon_enter]
   refine (show Calls Tryz.prog f _ _ _ from HV).mono ?_
   rintro e w2 ⟨rfl,hI2,hC2⟩
   obtain⟨hb2,hn2⟩:=hC2.blk hbx hnF
   have b6:w2.cell? ⟨wr.heap.size,6,none⟩=some (.slice A6 s.body.length c6):=(cell_blk hb2 _).trans rfl
   have hde:((deep+1:Nat):Int)=(deep:Int)+1:=by simp
   have hfs':(Al.flatS s).length=1+(Al.flatL s.body).length+(Al.flatL s.els).length:=hfs
   have hln':(Al.flatL l).length=(Al.flatL (l.take i)).length+(Al.flatS s).length+r.length:=hln
   have hJ':J=j+(Al.flatL (l.take i)).length:=hJ
   have HE1:=hm1 s.body A6 c6 (deep+1) (J+1) w2 (by omega) g6 l6 (fun t ht=>hPs t (by rw [flatS_eq];simp [ht])) (by omega) (by omega) hI2
   rw [hde] at HE1
   clear HV hC
   replace hC2:=hC1.trans hC2
   clear hC1
   have HE2:=fun (w3:World) (hI3:I (J+1+(Al.flatL s.body).length) w3)=>hm1 s.els A7 c7 (deep+1) (J+1+(Al.flatL s.body).length) w3 (by omega) g7 l7 (fun t ht=>hPs t (by rw [flatS_eq];simp [ht])) (by omega) (by omega) hI3
   rw [hde] at HE2
   clear hfs' hln' hJ'
   go_wp2_with (first|(go_at_call 141;with_reducible refine HE1.mono ?_;rintro e w3 ⟨rfl,hI3,hC3⟩;obtain⟨hb3,hn3⟩:=hC3.blk hb2 hn2;have b7:w3.cell? ⟨wr.heap.size,7,none⟩=some (.slice A7 s.els.length c7):=(cell_blk hb3 _).trans rfl;replace hC3:=hC2.trans hC3;replace HE2:=HE2 w3 hI3;clear HE1)|(go_at_call 141;with_reducible refine HE2.mono ?_;rintro e w4 ⟨rfl,hI4,hC4⟩;replace hC4:=hC3.trans hC4;clear HE2))
   have HN:Hid (I (j+(Al.flatL (l.take (i+1))).length) w4/\Chg w w4 F F):=by
    refine show _/\_ from⟨?_,hC4⟩
    have e:j+(Al.flatL (l.take (i+1))).length=J+1+(Al.flatL s.body).length+(Al.flatL s.els).length:=by
     have h1:(Al.flatL (l.take (i+1))).length=_:=htl
     have h2:J=_:=hJ
     have h3:(Al.flatS s).length=_:=hfs
     omega
    rw [e];exact hI4
   go_roundg k1
   case measure=>omega
   case rel=>exact⟨i+1,by simp,by omega,by omega,HN⟩
  ·have hie:i=l.length:=by omega
   have t1:decide ((i:Int)<(l.length:Int))=false:=by simp;omega
   go_wp2_with fail
   refine bodyPost_ret (v:= .bool true) (by simp [results,Tryz.results141,go_sem]) rfl ⟨rfl,?_⟩
   have HR:=show _/\_ from HR
   rw [hie,List.take_length] at HR
   exact HR
theorem each_all {W0:World}{f:FuncId}{caps:List Value}{N:Nat}{P:Al.Stmt->Prop}{I:Nat->World->Prop}{F:Nat->Prop}{n0:Nat}(hF:∀ k,F k->k<n0)(hN:N<=1000){fn:Func}(hfn:Tryz.prog.funcs[f]?=some fn)(hname:(fn.name == "runtime.NumGoroutine")=false)(hbody:fn.body.isSome=true)
  (hI:∀ j w,I j w->Below W0.heap.size W0 w/\n0<=w.heap.size) (hstep:∀ j w w',I j w->Below w.heap.size w w'->I j w') (hf:VisitC W0 f caps N P I F):∀ m,EachC W0 f caps N P I F m
 |0=>each_step hF hN hfn hname hbody hI hstep hf 0 (fun h=>absurd h (by omega))
 |m+1=>each_step hF hN hfn hname hbody hI hstep hf (m+1) (fun _=>each_all hF hN hfn hname hbody hI hstep hf m)
end Go.Proofs.YtkplfaionpplaaaGreatDoor
namespace Go.Proofs.YtkplfaionpplaaaGreatDoor
open Go.RowKit Go.Proofs.YtkplfaionpplaaaGreatDoorW.PrintLast
theorem each_top {W0:World}{f:FuncId}{caps:List Value}{N:Nat}{P:Al.Stmt->Prop}{I:Nat->World->Prop}{F:Nat->Prop}{n0:Nat}(hF:∀ k,F k->k<n0)(hN:N<=1000){fn:Func}(hfn:Tryz.prog.funcs[f]?=some fn)(hname:(fn.name == "runtime.NumGoroutine")=false)(hbody:fn.body.isSome=true)
  (hI:∀ j w,I j w->Below W0.heap.size W0 w/\n0<=w.heap.size) (hstep:∀ j w w',I j w->Below w.heap.size w w'->I j w') (hf:VisitC W0 f caps N P I F)
  (l:List Al.Stmt) (A:Option Addr) (cap:Nat) (w:World) (hl:kStmt.C W0 A l.length l) (hcap:l.length<=cap) (hP:∀ s∈Al.flatL l,P s) (hd:Al.depthL l<=6) (hj:(Al.flatL l).length<=N) (hi:I 0 w):
  Calls Tryz.prog 104 #[.slice A l.length cap,.func (.func f) #[] caps.toArray] w fun e w'=>e= .returned (.tuple #[])/\I (Al.flatL l).length w'/\Chg w w' F F:=by
 have hlen:=flatL_len l
 have HE:=each_all hF hN hfn hname hbody hI hstep hf 7 l A cap 0 0 w (by omega) hl hcap hP (by omega) (by omega) hi
 rw [Nat.zero_add] at HE
 go_enter Tryz.func104,Tryz.ntmps104
 go_wp2_with (first|(go_at_call 141;refine HE.mono ?_;rintro e w1 ⟨rfl,hI1,hC1⟩))
 exact bodyPost_end (v:= .tuple #[]) (by simp [results,Tryz.results104,go_sem]) rfl ⟨rfl,hI1,hC1⟩
theorem chg_set {w:World}{F:Nat->Prop}{k j:Nat}{u:Value}(h:F k):Chg w (w.setCell ⟨k,j,none⟩ u) F F:=
 ⟨rfl,rfl,rfl,by rw [set_size];exact Nat.le_refl _,fun i _ hn=>set_blk_ne _ _ (fun e=>hn (e ▸ h)),fun _ h=> .inl h⟩
theorem chg_alloc (w:World)(F:Nat->Prop)(o:Obj):Chg w (w.alloc o) F F:=Chg.of_below F ((Below.refl _ _).alloc (Nat.le_refl _) _)
structure CountI (W0:World)(n0 kn km:Nat)(j:Nat)(w:World):Prop where
 below:Below W0.heap.size W0 w
 size:n0<=w.heap.size
 n:w.heap[kn]?=some (.cells #[.int .i64 j] 3 (0,0))
 m:w.heap[km]?=some (.cells #[.bool false] 4 (0,0))
theorem CountI.step {W0:World}{n0 kn km j:Nat}{w w':World}(h:CountI W0 n0 kn km j w)(hW:W0.heap.size<=w.heap.size)(hb:Below w.heap.size w w'):CountI W0 n0 kn km j w':=
 ⟨h.below.trans (lower_below hb hW),Nat.le_trans h.size hb.size,below_blk hb h.n (blk_lt h.n),below_blk hb h.m (blk_lt h.m)⟩
theorem count_visit (W0:World){n0 kn km N:Nat}(hN:N<=100)(P:Al.Stmt->Prop)(hkn:W0.heap.size<=kn)(hkm:W0.heap.size<=km)(hnm:kn≠km):
  VisitC W0 105 [.pointer (some ⟨kn,0,none⟩),.pointer (some ⟨km,0,none⟩)] N P (CountI W0 n0 kn km) (fun k=>k=kn\/k=km):=by
 intro j w s A6 A7 c6 c7 deep hP hd hj g6 g7 hI
 obtain⟨x6,hx6⟩:∃ x6,x6=Value.slice A6 s.body.length c6:=⟨_,rfl⟩
 obtain⟨x7,hx7⟩:∃ x7,x7=Value.slice A7 s.els.length c7:=⟨_,rfl⟩
 rw [<-hx6,<-hx7]
 replace hx6:=Lib.hid hx6
 replace hx7:=Lib.hid hx7
 have hsz:W0.heap.size<=w.heap.size:=hI.below.size
 have n1:∀ o,(w.alloc o).cell? ⟨kn,0,none⟩=some (.int .i64 j):=fun o=>alloc_cell o ((cell_blk hI.n _).trans rfl)
 have m1:∀ o,(w.alloc o).cell? ⟨km,0,none⟩=some (.bool false):=fun o=>alloc_cell o ((cell_blk hI.m _).trans rfl)
 have fn1:∀ o,(w.alloc o).frozen? ⟨kn,0,none⟩=false:=fun o=>frozen_blk (alloc_blk o hI.n) 0
 have fm1:∀ o,(w.alloc o).frozen? ⟨km,0,none⟩=false:=fun o=>frozen_blk (alloc_blk o hI.m) 0
 have t1:decide ((100:Int)<(j:Int)+1)=false:=decide_eq_false (by omega)
 have t2:decide ((6:Int)<(deep:Int))=false:=decide_eq_false (by omega)
 go_enter Tryz.func105,Tryz.ntmps105
 unfold stmtV
 go_wp2_with fail
 have hcast:((j+1:Nat):Int)=(j:Int)+1:=by simp
 refine bodyPost_ret (v:= .bool true) (by simp [results,Tryz.results105,go_sem]) rfl ⟨rfl,⟨below_set (below_set (hI.below.alloc hsz _) hkn) hkm,?_,?_,?_⟩,(chg_alloc _ _ _).trans ((chg_set (.inl rfl)).trans (chg_set (.inr rfl)))⟩
 ·rw [set_size,set_size];simp;have:=hI.size;omega
 ·rw [hcast]
  exact (set_blk_ne _ _ hnm).trans (set_blk (alloc_blk _ hI.n) 0 _)
 ·exact set_blk ((set_blk_ne _ _ (Ne.symm hnm)).trans (alloc_blk _ hI.m)) 0 _
structure ErrI (W0:World)(n0 kp kn ke:Nat)(q n:Int)(nv:Nat)(Va:Option Addr)(vc:Nat)(xb:Value)(j:Nat)(w:World):Prop where
 below:Below W0.heap.size W0 w
 size:n0<=w.heap.size
 p:w.heap[kp]?=some (.cells #[.int .i64 q,.int .i64 n,.slice Va nv vc,xb] 27 (0,0))
 n:w.heap[kn]?=some (.cells #[.int .i64 j] 3 (0,0))
 e:w.heap[ke]?=some (.cells #[Value.nilIface] 44 (0,0))
theorem ErrI.step {W0:World}{n0 kp kn ke:Nat}{q n:Int}{nv:Nat}{Va:Option Addr}{vc:Nat}{xb:Value}{j:Nat}{w w':World}(h:ErrI W0 n0 kp kn ke q n nv Va vc xb j w)(hW:W0.heap.size<=w.heap.size)(hb:Below w.heap.size w w'):ErrI W0 n0 kp kn ke q n nv Va vc xb j w':=
 ⟨h.below.trans (lower_below hb hW),Nat.le_trans h.size hb.size,below_blk hb h.p (blk_lt h.p),below_blk hb h.n (blk_lt h.n),below_blk hb h.e (blk_lt h.e)⟩
theorem err_visit {W0:World}{n0 kp kn ke N:Nat}{q n:Int}{vars:List Al.Var}{Va:Option Addr}{vc:Nat}{xb:Value}(hv:kVar.C W0 Va vars.length vars)(hvl:vars.length<=12)(hq:0<=q/\q<8388608)(hN:N<=100)(hkn:W0.heap.size<=kn)(hne:kn≠ke)(hnp:kn≠kp):
  VisitC W0 106 [.pointer (some ⟨kp,0,none⟩),.pointer (some ⟨kn,0,none⟩),.pointer (some ⟨ke,0,none⟩)] N (fun s=>Al.oneF q vars s=0) (ErrI W0 n0 kp kn ke q n vars.length Va vc xb) (fun k=>k=kn):=by
 intro j w s A6 A7 c6 c7 deep hP hd hj g6 g7 hI
 obtain⟨x6,hx6⟩:∃ x6,x6=Value.slice A6 s.body.length c6:=⟨_,rfl⟩
 obtain⟨x7,hx7⟩:∃ x7,x7=Value.slice A7 s.els.length c7:=⟨_,rfl⟩
 have hsz:W0.heap.size<=w.heap.size:=hI.below.size
 have hb0:Below w.heap.size w (w.alloc (.cells (stmtV s (Value.slice A6 s.body.length c6) (Value.slice A7 s.els.length c7)) 66)):=(Below.refl _ _).alloc (Nat.le_refl _) _
 have hI1:=hI.step hsz hb0
 have HO:=src_one (q:=q) (n:=n) (vc:=vc) (xb:=xb) (A6:=A6) (A7:=A7) (c6:=c6) (c7:=c7) (Go.Proofs.YtkplfaionpplaaaGreatDoorW.PrintWords.Kd.C_below hv hI1.below) hvl s hq hP
 have hne2:=Ne.symm hne
 have hC1:=chg_alloc w (fun k=>k=kn) (.cells (stmtV s (Value.slice A6 s.body.length c6) (Value.slice A7 s.els.length c7)) 66)
 rw [<-hx6,<-hx7] at HO hI1 hC1 hb0 ⊢
 replace hx6:=Lib.hid hx6
 replace hx7:=Lib.hid hx7
 have p1:∀ o,(w.alloc o).heap[kp]?=_:=fun o=>alloc_blk o hI.p
 have q0:∀ o,(w.alloc o).cell? ⟨kp,0,none⟩=some (.int .i64 q):=fun o=>(cell_blk (p1 o) _).trans rfl
 have q1:∀ o,(w.alloc o).cell? ⟨kp,1,none⟩=some (.int .i64 n):=fun o=>(cell_blk (p1 o) _).trans rfl
 have q2:∀ o,(w.alloc o).cell? ⟨kp,2,none⟩=some (.slice Va vars.length vc):=fun o=>(cell_blk (p1 o) _).trans rfl
 have q3:∀ o,(w.alloc o).cell? ⟨kp,3,none⟩=some xb:=fun o=>(cell_blk (p1 o) _).trans rfl
 unfold stmtV at HO hI1 hC1 hb0
 go_enter Tryz.func106,Tryz.ntmps106
 unfold stmtV
 go_wp2_with (first|(go_at_call 107;refine HO.mono ?_;rintro e w1 ⟨rfl,hb1⟩;have hI2:=hI1.step (by simp;omega) hb1;have n2:w1.cell? ⟨kn,0,none⟩=some (.int .i64 j):=(cell_blk hI2.n _).trans rfl;have f2:=frozen_blk hI2.n 0;have e2:w1.cell? ⟨ke,0,none⟩=some Value.nilIface:=(cell_blk hI2.e _).trans rfl))
 have hcast:((j+1:Nat):Int)=(j:Int)+1:=by simp
 have hsz1:W0.heap.size<=w1.heap.size:=hI2.below.size
 refine bodyPost_ret (v:= .bool true) (by simp [results,Tryz.results106,go_sem]) rfl ⟨rfl,⟨below_set hI2.below hkn,?_,?_,?_,?_⟩,(hC1.trans (Chg.of_below _ hb1)).trans (chg_set rfl)⟩
 ·rw [set_size];exact hI2.size
 ·exact (set_blk_ne _ _ (Ne.symm hnp)).trans hI2.p
 ·rw [hcast];exact set_blk hI2.n 0 _
 ·exact (set_blk_ne _ _ (Ne.symm hne)).trans hI2.e
structure PLies (w:World)(p:Al.Prog)(Va Ab:Option Addr)(vc cb:Nat):Prop where
 v:kVar.C w Va p.vars.length p.vars
 b:kStmt.C w Ab p.body.length p.body
 cap:p.body.length<=cb
def progV (p:Al.Prog)(Va Ab:Option Addr)(vc cb:Nat):Value:= .agg #[.int .i64 p.q,.int .i64 p.n,.slice Va p.vars.length vc,.slice Ab p.body.length cb]
theorem PLies.below {w w':World}{p:Al.Prog}{Va Ab:Option Addr}{vc cb:Nat}(h:PLies w p Va Ab vc cb)(hb:Below w.heap.size w w'):PLies w' p Va Ab vc cb:=
 ⟨Go.Proofs.YtkplfaionpplaaaGreatDoorW.PrintWords.Kd.C_below h.v hb,Go.Proofs.YtkplfaionpplaaaGreatDoorW.PrintWords.Kd.C_below h.b hb,h.cap⟩
def PBox (w:World)(kp:Nat)(p:Al.Prog)(Va Ab:Option Addr)(vc cb:Nat):Prop:=w.heap[kp]?=some (.cells #[.int .i64 p.q,.int .i64 p.n,.slice Va p.vars.length vc,.slice Ab p.body.length cb] 27 (0,0))
theorem PBox.cells {w:World}{kp:Nat}{p:Al.Prog}{Va Ab:Option Addr}{vc cb:Nat}(h:PBox w kp p Va Ab vc cb):w.cell? ⟨kp,0,none⟩=some (.int .i64 p.q)/\w.cell? ⟨kp,1,none⟩=some (.int .i64 p.n)/\w.cell? ⟨kp,2,none⟩=some (.slice Va p.vars.length vc)/\w.cell? ⟨kp,3,none⟩=some (.slice Ab p.body.length cb):=
 ⟨(cell_blk h _).trans rfl,(cell_blk h _).trans rfl,(cell_blk h _).trans rfl,(cell_blk h _).trans rfl⟩
theorem rd_var (l:List Al.Var)(i:Nat)(h:i<l.length):rd_T901 l (i:Int)=l[i]:=by unfold rd_T901;simp [List.getD,h]
theorem src_valid {p:Al.Prog}(hF:Al.Fine p){w:World}{Va Ab:Option Addr}{vc cb:Nat}(hp:PLies w p Va Ab vc cb):
  Calls Tryz.prog 70 #[progV p Va Ab vc cb] w fun e w'=>e= .returned Value.nilIface/\Below w.heap.size w w':=by
 have hring:Al.ringOk p.q p.n=true:=by unfold Al.ringOk;rw [hF.prime,hF.size];rfl
 have hvl:=hF.vars
 have hq:0<=p.q/\p.q<8388608:=by have:=hF.q;omega
 have hkinds:∀ (i:Nat) (h:i<p.vars.length),1<=(p.vars[i]).kind/\(p.vars[i]).kind<=3:=fun i h=>by have:=hF.kinds _ (List.getElem_mem h);omega
 obtain⟨W,hW⟩:∃ W,W=w.alloc (.cells #[.int .i64 p.q,.int .i64 p.n,.slice Va p.vars.length vc,.slice Ab p.body.length cb] 27):=⟨_,rfl⟩
 obtain⟨kp,hkp⟩:∃ kp,kp=w.heap.size:=⟨_,rfl⟩
 have hb0:Below w.heap.size w W:=by rw [hW];exact (Below.refl _ _).alloc (Nat.le_refl _) _
 have P0:PBox W kp p Va Ab vc cb:=by rw [hW,hkp];exact heap_alloc_new w _
 have hkl:kp<W.heap.size:=blk_lt P0
 have HV:=valid_yes W p.q p.n hring
 go_enter Tryz.func70,Tryz.ntmps70
 unfold progV
 go_wp2_with fail
 rw [<-hW]
 simp only [<-hkp]
 replace hkp:=Lib.hid hkp
 clear hW
 go_wp2_with (first|(go_at_call 61;refine HV.mono ?_;rintro e w1 ⟨rfl,hb1⟩;have P1:PBox w1 kp p Va Ab vc cb:=below_blk hb1 P0 hkl;obtain⟨p0,p1,p2,p3⟩:=P1.cells;have hb2:=hb0.trans (lower_below hb1 hb0.size)))
 clear P0 hb0 hb1 hkl HV
 have R1:Hid (PBox w1 kp p Va Ab vc cb/\Below w.heap.size w w1):=Lib.hid ⟨P1,hb2⟩
 clear p0 p1 p2 p3 P1 hb2
 go_loopg [4,5,23] (p.vars.length+1) (fun gk v4 v5 v23 w'=>∃ i:Nat,v23= .int .i64 i/\i+gk=p.vars.length+1/\i<=p.vars.length/\Hid (PBox w' kp p Va Ab vc cb/\Below w.heap.size w w'))
 case atStart=>exact⟨0,rfl,by omega,by omega,R1⟩
 case round=>
  obtain⟨i,rfl,hg,hi2,HR⟩:=hrel
  obtain⟨P1,hb2⟩:=show _/\_ from HR
  clear HR R1
  obtain⟨p0,p1,p2,p3⟩:=P1.cells
  by_cases hil:i<p.vars.length
  ·obtain⟨k1,rfl⟩:∃ k1,gk=k1+1:=⟨gk - 1,by omega⟩
   obtain⟨ad,hVa,d0,d1⟩:=at_T901 hp.v (i:Int) (by omega) (by omega)
   replace d0:=cell_since hb2 d0
   replace d1:=cell_since hb2 d1
   simp only [Int.toNat_natCast] at d0 d1
   have hk:=hkinds i hil
   rw [rd_var _ i hil] at d0 d1
   obtain⟨x,hx⟩:∃ x,x=p.vars[i]:=⟨_,rfl⟩
   rw [<-hx] at d0 d1 hk
   replace hx:=Lib.hid hx
   have r0:(0:Int)<=(i:Int):=by omega
   have r1:(i:Int)<(p.vars.length:Int):=by omega
   have r2:decide ((i:Int)<(p.vars.length:Int))=true:=decide_eq_true r1
   have r3:decide (x.kind<1)=false:=decide_eq_false (by omega)
   have r4:decide (3<x.kind)=false:=decide_eq_false (by omega)
   have U2:=fun (o:Obj)=>Lib.hid (show PBox (wr.alloc o) kp p Va Ab vc cb/\Below w.heap.size w (wr.alloc o) from⟨alloc_blk _ P1,hb2.alloc hb2.size _⟩)
   subst hVa
   clear P1 hb2 hk
   go_wp2_with fail
   go_roundg k1
   case measure=>omega
   case rel=>exact⟨i+1,by simp,by omega,by omega,U2 _⟩
  ·have hie:i=p.vars.length:=by omega
   have t1:decide ((i:Int)<(p.vars.length:Int))=false:=by simp;omega
   obtain⟨W2,hW2⟩:∃ W2,W2=(wr.alloc (.cells #[.int .i64 0] 3)).alloc (.cells #[.bool false] 4):=⟨_,rfl⟩
   obtain⟨kn,hkn⟩:∃ kn,kn=wr.heap.size:=⟨_,rfl⟩
   obtain⟨km,hkm⟩:∃ km,km=kn+1:=⟨_,rfl⟩
   have hwr:w.heap.size<=wr.heap.size:=hb2.size
   have hB2:Below w.heap.size w W2:=by rw [hW2];exact (hb2.alloc hwr _).alloc (by simp;omega) _
   have hs2:W2.heap.size=wr.heap.size+2:=by rw [hW2];simp
   have P2:PBox W2 kp p Va Ab vc cb:=by rw [hW2];exact alloc_blk _ (alloc_blk _ P1)
   have hi0:CountI w (km+1) kn km 0 W2:=⟨hB2,by omega,by rw [hW2,hkn];exact alloc_blk _ (heap_alloc_new wr _),by rw [hW2,hkm,hkn];exact alloc_at _ _ _⟩
   have HE:=each_top (F:=fun k=>k=kn\/k=km) (n0:=km+1) (N:=100) (P:=fun _=>True) (by rintro k (rfl|rfl)<;> omega) (by omega) Tryz.func105 (by kernel_rfl) rfl (fun j w' h=>⟨h.below,h.size⟩) (fun j w1 w2 h hb=>h.step (by have:=h.below.size;omega) hb) (count_visit w (Nat.le_refl _) (fun _=>True) (by omega) (by omega) (by omega)) p.body Ab cb W2 hp.b hp.cap (fun _ _=>trivial) hF.depth hF.flat hi0
   have v3:∀ o1 o2,((wr.alloc o1).alloc o2).cell? ⟨kp,3,none⟩=some (.slice Ab p.body.length cb):=fun o1 o2=>alloc_cell _ (alloc_cell _ p3)
   clear hi0
   replace hs2:=Lib.hid hs2
   go_wp2_with fail
   rw [<-hW2]
   simp only [<-hkn,<-hkm]
   refine HE.mono ?_
   rintro e w3 ⟨rfl,hI3,hC3⟩
   have hkpn:kp≠kn:=by have:=blk_lt P1;omega
   have hkpm:kp≠km:=by have:=blk_lt P1;omega
   obtain⟨P3,_⟩:=hC3.blk P2 (by rintro (h|h);exact hkpn h;exact hkpm h)
   have P3:PBox w3 kp p Va Ab vc cb:=P3
   have m3:w3.cell? ⟨km,0,none⟩=some (.bool false):=(cell_blk hI3.m _).trans rfl
   have n3:∀ o,(w3.alloc o).cell? ⟨kn,0,none⟩=some (.int .i64 ((Al.flatL p.body).length:Nat)):=fun o=>alloc_cell o ((cell_blk hI3.n _).trans rfl)
   have f3:∀ o,(w3.alloc o).frozen? ⟨kn,0,none⟩=false:=fun o=>frozen_blk (alloc_blk o hI3.n) 0
   have p3':∀ o,(w3.alloc o).cell? ⟨kp,3,none⟩=some (.slice Ab p.body.length cb):=fun o=>alloc_cell o P3.cells.2.2.2
   have hs3:km+1<=w3.heap.size:=hI3.size
   obtain⟨ke,hke⟩:∃ ke,ke=w3.heap.size:=⟨_,rfl⟩
   have hkne:kn≠ke:=by omega
   obtain⟨W4,hW4⟩:∃ W4,W4=(w3.alloc (.cells #[Value.nilIface] 44)).setCell ⟨kn,0,none⟩ (.int .i64 0):=⟨_,rfl⟩
   have hwn:w.heap.size<=kn:=by omega
   have hi4:ErrI w (ke+1) kp kn ke p.q p.n p.vars.length Va vc (.slice Ab p.body.length cb) 0 W4:=by
    rw [hW4]
    refine⟨below_set (hI3.below.alloc hI3.below.size _) hwn,?_,?_,?_,?_⟩
    ·rw [set_size];simp;omega
    ·exact (set_blk_ne _ _ hkpn).trans (alloc_blk _ P3)
    ·exact set_blk (alloc_blk _ hI3.n) 0 _
    ·rw [hke];exact (set_blk_ne _ _ (by omega)).trans (heap_alloc_new w3 _)
   have HE2:=each_top (F:=fun k=>k=kn) (n0:=ke+1) (N:=100) (P:=fun s=>Al.oneF p.q p.vars s=0) (by rintro k rfl;omega) (by omega) Tryz.func106 (by kernel_rfl) rfl (fun j w' h=>⟨h.below,h.size⟩) (fun j w1 w2 h hb=>h.step (by have:=h.below.size;omega) hb) (err_visit hp.v hvl hq (Nat.le_refl _) hwn hkne (Ne.symm hkpn)) p.body Ab cb W4 hp.b hp.cap hF.one hF.depth hF.flat hi4
   clear hi4 HE hs2 P2 hB2 hC3 P1 v3 hW2 hkn hkm
   replace hke:=Lib.hid hke
   go_wp2_with fail
   have hke':ke=w3.heap.size:=hke
   rw [<-hke',<-hW4]
   refine HE2.mono ?_
   rintro e w5 ⟨rfl,hI5,hC5⟩
   have e5:w5.cell? ⟨ke,0,none⟩=some Value.nilIface:=(cell_blk hI5.e _).trans rfl
   clear HE2 hW4 hke' hke
   go_wp2_with fail
   exact bodyPost_ret (v:=Value.nilIface) (by simp [results,Tryz.results70,go_sem]) rfl ⟨rfl,hI5.below⟩
theorem secret_one {w:World}{p:Al.Prog}{Va Ab:Option Addr}{vc cb k:Nat}(hp:PLies w p Va Ab vc cb)(hk:PBox w k p Va Ab vc cb)(v:Int)(h0:0<=v)(h1:v<p.vars.length):
  Calls Tryz.prog 176 #[.int .i64 v,.pointer (some ⟨k,0,none⟩)] w fun e w'=>e= .returned (.bool (rd_T901 p.vars v).secret)/\w'=w:=by
 obtain⟨p0,p1,p2,p3⟩:=hk.cells
 obtain⟨ad,rfl,d0,d1⟩:=at_T901 hp.v v h0 h1
 go_enter Tryz.func176,Tryz.ntmps176
 go_wp2_with fail
 exact bodyPost_ret (v:= .bool (rd_T901 p.vars v).secret) (by simp [results,Tryz.results176,go_sem]) rfl ⟨rfl,rfl⟩
theorem secret_any {w:World}{p:Al.Prog}{Va Ab:Option Addr}{vc cb:Nat}:
  Calls Tryz.prog 148 #[progV p Va Ab vc cb] w fun e w'=>∃ k,e= .returned (.func (.func 176) #[] #[.pointer (some ⟨k,0,none⟩)])/\PBox w' k p Va Ab vc cb/\Below w.heap.size w w':=by
 have hb:Below w.heap.size w (w.alloc (.cells #[.int .i64 p.q,.int .i64 p.n,.slice Va p.vars.length vc,.slice Ab p.body.length cb] 27)):=(Below.refl _ _).alloc (Nat.le_refl _) _
 have hP:PBox (w.alloc (.cells #[.int .i64 p.q,.int .i64 p.n,.slice Va p.vars.length vc,.slice Ab p.body.length cb] 27)) w.heap.size p Va Ab vc cb:=heap_alloc_new w _
 go_enter Tryz.func148,Tryz.ntmps148
 unfold progV
 go_wp2_with fail
 exact bodyPost_ret (v:= .func (.func 176) #[] #[.pointer (some ⟨w.heap.size,0,none⟩)]) (by simp [results,Tryz.results148,go_sem]) rfl ⟨w.heap.size,rfl,hP,hb⟩
theorem index_no {w:World}{p:Al.Prog}{Va Ab:Option Addr}{vc cb k:Nat}(hp:PLies w p Va Ab vc cb)(hk:PBox w k p Va Ab vc cb){a:Option Addr}{cap:Nat}{L:List Int}(hI:IntsAt w (.slice a L.length cap) L)(hL:L.length<1000)(hr:∀ v∈L,0<=v/\v<p.vars.length)(hs:∀ v∈L,(rd_T901 p.vars v).secret=false):
  Calls Tryz.prog 175 #[.slice a L.length cap,.func (.func 176) #[] #[.pointer (some ⟨k,0,none⟩)]] w fun e w'=>e= .returned (.int .i64 (-1))/\w'=w:=by
 go_enter Tryz.func175,Tryz.ntmps175
 go_wp2_with fail
 go_loopg [5,8] (L.length+1) (fun gk v5 v8 w'=>∃ j:Nat,v8= .int .i64 j/\j+gk=L.length+1/\j<=L.length/\w'=w)
 case atStart=>exact⟨0,rfl,by omega,by omega,rfl⟩
 case round=>
  obtain⟨j,rfl,hj,hj2,hww⟩:=hrel
  subst hww
  by_cases hjl:j<L.length
  ·obtain⟨k1,rfl⟩:∃ k1,gk=k1+1:=⟨gk - 1,by omega⟩
   have hrj:=hr L[j] (List.getElem_mem hjl)
   have hsj:=hs L[j] (List.getElem_mem hjl)
   obtain⟨ag,he,hcell⟩:∃ ag,a=some ⟨ag,0,none⟩/\wr.cell? ⟨ag,j,none⟩=some (.int .i64 L[j]):=by
    rcases hI with⟨h,h0⟩|⟨g,c,cur,h,h1,h2⟩
    ·subst h0;simp at hjl
    ·simp only [Value.slice.injEq,true_and] at h
     exact⟨g,h.1,by rw [cell_blk h1,h2 j hjl]⟩
   obtain⟨x,hx⟩:∃ x,x=L[j]:=⟨_,rfl⟩
   rw [<-hx] at hrj hsj hcell
   replace hx:=Lib.hid hx
   subst he
   have t1:decide ((j:Int)<(L.length:Int))=true:=by simp;omega
   have t2:(0:Int)<=(j:Int):=by omega
   have t3:(j:Int)<(L.length:Int):=by omega
   have HO:=secret_one hp hk x hrj.1 hrj.2
   rw [hsj] at HO
   clear hI
   go_wp2_with (first|(go_at_call 176;refine HO.mono ?_;rintro e w1 ⟨rfl,rfl⟩))
   go_roundg k1
   case measure=>omega
   case rel=>exact⟨j+1,by simp,by omega,by omega,rfl⟩
  ·have hje:j=L.length:=by omega
   have t1:decide ((j:Int)<(L.length:Int))=false:=by simp;omega
   go_wp2_with fail
   exact bodyPost_ret (v:= .int .i64 (-1)) (by simp [results,Tryz.results175,go_sem]) rfl ⟨rfl,rfl⟩
theorem contains_no {w:World}{p:Al.Prog}{Va Ab:Option Addr}{vc cb k:Nat}(hp:PLies w p Va Ab vc cb)(hk:PBox w k p Va Ab vc cb){a:Option Addr}{cap:Nat}{L:List Int}(hI:IntsAt w (.slice a L.length cap) L)(hL:L.length<1000)(hr:∀ v∈L,0<=v/\v<p.vars.length)(hs:∀ v∈L,(rd_T901 p.vars v).secret=false):
  Calls Tryz.prog 147 #[.slice a L.length cap,.func (.func 176) #[] #[.pointer (some ⟨k,0,none⟩)]] w fun e w'=>e= .returned (.bool false)/\w'=w:=by
 go_enter Tryz.func147,Tryz.ntmps147
 go_wp2_with (first|(go_at_call 175;refine (index_no hp hk hI hL hr hs).mono ?_;rintro e w1 ⟨rfl,rfl⟩))
 exact bodyPost_ret (v:= .bool false) (by simp [results,Tryz.results147,go_sem]) rfl ⟨rfl,rfl⟩
theorem undrew {w w':World}(h:Below w.drew.heap.size w.drew w'):Below w.heap.size w w':=⟨h.os,h.tape,h.output,h.size,h.block⟩
theorem breaks_if {w:World}{p:Al.Prog}{Va Ab:Option Addr}{vc cb:Nat}(hp:PLies w p Va Ab vc cb)(s:Al.Stmt)(x6 x7:Value){g:Al.Has}(hg:Al.hasOf s.op=some g)(hr:∀ v∈Al.usesOf s,0<=v/\v<p.vars.length)(hd:g.d=true->0<=s.d/\s.d<p.vars.length)(hbk:Al.breaksB p.vars s=false)(hop:s.op=14\/s.op=16):
  Calls Tryz.prog 109 #[progV p Va Ab vc cb,.agg (stmtV s x6 x7)] w fun e w'=>e= .returned (.bool false)/\Below w.heap.size w w':=by
 obtain⟨W,hW⟩:∃ W,W=(w.alloc (.cells #[.int .i64 p.q,.int .i64 p.n,.slice Va p.vars.length vc,.slice Ab p.body.length cb] 27)).alloc (.cells (stmtV s x6 x7) 66):=⟨_,rfl⟩
 obtain⟨kp,hkp⟩:∃ kp,kp=w.heap.size:=⟨_,rfl⟩
 obtain⟨ks,hks⟩:∃ ks,ks=kp+1:=⟨_,rfl⟩
 have hb0:Below w.heap.size w W:=by rw [hW];exact alloc_two _ _ _
 have hP:PBox W kp p Va Ab vc cb:=by rw [hW,hkp];exact alloc_blk _ (heap_alloc_new w _)
 have hS:SB W ks s x6 x7:=by rw [hW,hks,hkp];exact alloc_at _ _ _
 have hpl:=hp.below hb0
 have hno:∀ v∈Al.usesOf s,(rd_T901 p.vars v).secret=false:=by
  intro v hv
  have:(Al.usesOf s).any (fun v=>(Al.varAt p.vars v).secret)=false:=by
   unfold Al.breaksB at hbk
   rcases hop with h|h<;> rw [h] at hbk<;> simpa using hbk
  have h2:=List.any_eq_false.1 this v hv
  simp only [Bool.not_eq_true] at h2
  exact h2
 have hLl:(Al.usesOf s).length<1000:=by
  unfold Al.usesOf;rw [hg]
  simp only [List.length_append]
  (repeat' split)<;> simp
 obtain⟨L,hL⟩:∃ L,L=Al.usesOf s:=⟨_,rfl⟩
 have HU:=fun w0=>src_uses w0 s x6 x7 hg
 have HS:=fun w0=>secret_any (w:=w0) (p:=p) (Va:=Va) (Ab:=Ab) (vc:=vc) (cb:=cb)
 rw [<-hL] at hr hno hLl
 simp only [<-hL] at HU
 replace hL:=Lib.hid hL
 unfold stmtV at HU
 unfold progV at HS
 cases s with|mk op d a b c k body els=>
 dsimp only at hop hg hbk hL HU hd
 unfold stmtV at hW
 dsimp only at hW
 go_enter Tryz.func109,Tryz.ntmps109
 unfold stmtV progV
 dsimp only
 clear hg hbk
 rcases hop with rfl|rfl
 ·go_upto_region 2 with fail
  rw [<-hW]
  simp only [<-hkp,<-hks]
  clear hW
  obtain⟨p0,p1,p2,p3⟩:=hP.cells
  obtain⟨s0,s1,s2,s3,s4,s5,s6,s7⟩:=hS.cells
  dsimp only at s0 s1 s2 s3 s4 s5
  have hkpl:=blk_lt hP
  have hksl:=blk_lt hS
  replace hkp:=Lib.hid hkp
  replace hks:=Lib.hid hks
  go_region_held3 (fun w'=>w'.cell? ⟨kp,0,none⟩=some (.int .i64 p.q)/\w'.cell? ⟨kp,1,none⟩=some (.int .i64 p.n)/\w'.cell? ⟨kp,2,none⟩=some (.slice Va p.vars.length vc)/\w'.cell? ⟨kp,3,none⟩=some (.slice Ab p.body.length cb)/\w'.cell? ⟨ks,0,none⟩=some (.int .i64 14)/\w'.cell? ⟨ks,1,none⟩=some (.int .i64 d)/\w'.cell? ⟨ks,2,none⟩=some (.int .i64 a)/\w'.cell? ⟨ks,3,none⟩=some (.int .i64 b)/\w'.cell? ⟨ks,4,none⟩=some (.int .i64 c)/\w'.cell? ⟨ks,5,none⟩=some (.int .i64 k)/\w'.cell? ⟨ks,6,none⟩=some x6/\w'.cell? ⟨ks,7,none⟩=some x7) ((refine⟨?_,?_,?_,?_,?_,?_,?_,?_,?_,?_,?_,?_⟩<;> assumption)) (first
   |(go_at_call 143;refine (HU _).mono ?_;rintro e w1 ⟨v,rfl,hown,hb1⟩;replace hb1:=undrew hb1;obtain⟨av,cv,rfl⟩:=own_slice hown;have P1:PBox w1 kp p Va Ab vc cb:=below_blk hb1 hP hkpl;have S1:SB w1 ks _ x6 x7:=below_blk hb1 hS hksl;have hb2:=hb0.trans (lower_below hb1 hb0.size);clear p0 p1 p2 p3 s0 s1 s2 s3 s4 s5 s6 s7;obtain⟨p0,p1,p2,p3⟩:=P1.cells;obtain⟨s0,s1,s2,s3,s4,s5,s6,s7⟩:=S1.cells;dsimp only at s0 s1 s2 s3 s4 s5)
   |(go_at_call 148;refine (HS _).mono ?_;rintro e w2 ⟨kq,rfl,hQ,hb3⟩;have P2:PBox w2 kp p Va Ab vc cb:=below_blk hb3 P1 (blk_lt P1);have S2:SB w2 ks _ x6 x7:=below_blk hb3 S1 (blk_lt S1);have hb4:=hb2.trans (lower_below hb3 hb2.size);have hown2:=own_of hown fun k hk=>hb3.block k (hown.lt k hk).2;clear p0 p1 p2 p3 s0 s1 s2 s3 s4 s5 s6 s7;obtain⟨p0,p1,p2,p3⟩:=P2.cells;obtain⟨s0,s1,s2,s3,s4,s5,s6,s7⟩:=S2.cells;dsimp only at s0 s1 s2 s3 s4 s5)
   |(go_at_call 147;refine (contains_no (hp.below hb4) hQ (own_ints hown2) hLl hr hno).mono ?_;rintro e w3 ⟨rfl,rfl⟩))
  go_wp2_with fail
  exact bodyPost_ret (v:= .bool false) (by simp [results,Tryz.results109,go_sem]) rfl ⟨rfl,hb4⟩
 ·go_upto_region 2 with fail
  rw [<-hW]
  simp only [<-hkp,<-hks]
  clear hW
  obtain⟨p0,p1,p2,p3⟩:=hP.cells
  obtain⟨s0,s1,s2,s3,s4,s5,s6,s7⟩:=hS.cells
  dsimp only at s0 s1 s2 s3 s4 s5
  have hkpl:=blk_lt hP
  have hksl:=blk_lt hS
  replace hkp:=Lib.hid hkp
  replace hks:=Lib.hid hks
  go_region_held3 (fun w'=>w'.cell? ⟨kp,0,none⟩=some (.int .i64 p.q)/\w'.cell? ⟨kp,1,none⟩=some (.int .i64 p.n)/\w'.cell? ⟨kp,2,none⟩=some (.slice Va p.vars.length vc)/\w'.cell? ⟨kp,3,none⟩=some (.slice Ab p.body.length cb)/\w'.cell? ⟨ks,0,none⟩=some (.int .i64 16)/\w'.cell? ⟨ks,1,none⟩=some (.int .i64 d)/\w'.cell? ⟨ks,2,none⟩=some (.int .i64 a)/\w'.cell? ⟨ks,3,none⟩=some (.int .i64 b)/\w'.cell? ⟨ks,4,none⟩=some (.int .i64 c)/\w'.cell? ⟨ks,5,none⟩=some (.int .i64 k)/\w'.cell? ⟨ks,6,none⟩=some x6/\w'.cell? ⟨ks,7,none⟩=some x7) ((refine⟨?_,?_,?_,?_,?_,?_,?_,?_,?_,?_,?_,?_⟩<;> assumption)) (first
   |(go_at_call 143;refine (HU _).mono ?_;rintro e w1 ⟨v,rfl,hown,hb1⟩;replace hb1:=undrew hb1;obtain⟨av,cv,rfl⟩:=own_slice hown;have P1:PBox w1 kp p Va Ab vc cb:=below_blk hb1 hP hkpl;have S1:SB w1 ks _ x6 x7:=below_blk hb1 hS hksl;have hb2:=hb0.trans (lower_below hb1 hb0.size);clear p0 p1 p2 p3 s0 s1 s2 s3 s4 s5 s6 s7;obtain⟨p0,p1,p2,p3⟩:=P1.cells;obtain⟨s0,s1,s2,s3,s4,s5,s6,s7⟩:=S1.cells;dsimp only at s0 s1 s2 s3 s4 s5)
   |(go_at_call 148;refine (HS _).mono ?_;rintro e w2 ⟨kq,rfl,hQ,hb3⟩;have P2:PBox w2 kp p Va Ab vc cb:=below_blk hb3 P1 (blk_lt P1);have S2:SB w2 ks _ x6 x7:=below_blk hb3 S1 (blk_lt S1);have hb4:=hb2.trans (lower_below hb3 hb2.size);have hown2:=own_of hown fun k hk=>hb3.block k (hown.lt k hk).2;clear p0 p1 p2 p3 s0 s1 s2 s3 s4 s5 s6 s7;obtain⟨p0,p1,p2,p3⟩:=P2.cells;obtain⟨s0,s1,s2,s3,s4,s5,s6,s7⟩:=S2.cells;dsimp only at s0 s1 s2 s3 s4 s5)
   |(go_at_call 147;refine (contains_no (hp.below hb4) hQ (own_ints hown2) hLl hr hno).mono ?_;rintro e w3 ⟨rfl,rfl⟩))
  go_wp2_with fail
  exact bodyPost_ret (v:= .bool false) (by simp [results,Tryz.results109,go_sem]) rfl ⟨rfl,hb4⟩
theorem spills_no {w:World}{p:Al.Prog}{Va Ab:Option Addr}{vc cb:Nat}(hp:PLies w p Va Ab vc cb)(s:Al.Stmt)(x6 x7:Value){g:Al.Has}(hg:Al.hasOf s.op=some g)(hr:∀ v∈Al.usesOf s,0<=v/\v<p.vars.length)(hd:g.d=true->0<=s.d/\s.d<p.vars.length)(hbk:Al.breaksB p.vars s=false)(hop:s.op≠14/\s.op≠16):
  Calls Tryz.prog 149 #[progV p Va Ab vc cb,.agg (stmtV s x6 x7)] w fun e w'=>e= .returned (.bool false)/\Below w.heap.size w w':=by
 obtain⟨W,hW⟩:∃ W,W=(w.alloc (.cells #[.int .i64 p.q,.int .i64 p.n,.slice Va p.vars.length vc,.slice Ab p.body.length cb] 27)).alloc (.cells (stmtV s x6 x7) 66):=⟨_,rfl⟩
 obtain⟨kp,hkp⟩:∃ kp,kp=w.heap.size:=⟨_,rfl⟩
 obtain⟨ks,hks⟩:∃ ks,ks=kp+1:=⟨_,rfl⟩
 have hb0:Below w.heap.size w W:=by rw [hW];exact alloc_two _ _ _
 have hP:PBox W kp p Va Ab vc cb:=by rw [hW,hkp];exact alloc_blk _ (heap_alloc_new w _)
 have hS:SB W ks s x6 x7:=by rw [hW,hks,hkp];exact alloc_at _ _ _
 have hpl:=hp.below hb0
 have hLl:(Al.usesOf s).length<1000:=by
  unfold Al.usesOf;rw [hg]
  simp only [List.length_append]
  (repeat' split)<;> simp
 have hcase:g.d=false\/(g.d=true/\(rd_T901 p.vars s.d).secret=true)\/(g.d=true/\(rd_T901 p.vars s.d).secret=false/\s.op=12)\/(g.d=true/\(rd_T901 p.vars s.d).secret=false/\s.op≠12/\s.op≠13/\∀ v∈Al.usesOf s,(rd_T901 p.vars v).secret=false):=by
  rcases (Bool.eq_false_or_eq_true g.d).symm with h1|h1
  ·exact .inl h1
  rcases Bool.eq_false_or_eq_true (rd_T901 p.vars s.d).secret with h2|h2
  ·exact .inr (.inl ⟨h1,h2⟩)
  by_cases h3:s.op=12
  ·exact .inr (.inr (.inl ⟨h1,h2,h3⟩))
  have e:(Al.varAt p.vars s.d).secret=false:=h2
  have h4:s.op≠13:=by
   intro h4
   unfold Al.breaksB at hbk
   simp [h4,e] at hbk
  refine .inr (.inr (.inr ⟨h1,h2,h3,h4,fun v hv=>?_⟩))
  have h5:1<=s.op/\s.op<=11:=by
   refine Decidable.byContradiction fun hn=>?_
   have h15:s.op=15\/¬(1<=s.op/\s.op<=16):=by omega
   rcases h15 with h|h
   ·rw [h] at hg
    have:g=⟨false,false,false,false,true,true,false⟩:=by
     have hh:Al.hasOf 15=some ⟨false,false,false,false,true,true,false⟩:=rfl
     rw [hh] at hg;exact (Option.some.inj hg).symm
    rw [this] at h1;cases h1
   ·unfold Al.hasOf at hg
    simp only [show¬(s.op=1\/s.op=13) by omega,show¬(s.op=2\/s.op=12) by omega,show¬(s.op=3\/s.op=4\/s.op=5\/s.op=7) by omega,show¬(s.op=6\/s.op=8\/s.op=9\/s.op=11) by omega,show¬s.op=10 by omega,show¬s.op=14 by omega,show¬s.op=15 by omega,show¬s.op=16 by omega,if_false] at hg
    cases hg
  have:(Al.usesOf s).any (fun v=>(Al.varAt p.vars v).secret)=false:=by
   unfold Al.breaksB at hbk
   simpa [h3,h4,h5,e] using hbk
  have h6:=List.any_eq_false.1 this v hv
  simp only [Bool.not_eq_true] at h6
  exact h6
 obtain⟨L,hL⟩:∃ L,L=Al.usesOf s:=⟨_,rfl⟩
 have HU:=fun w0=>src_uses w0 s x6 x7 hg
 have HS:=fun w0=>secret_any (w:=w0) (p:=p) (Va:=Va) (Ab:=Ab) (vc:=vc) (cb:=cb)
 have HW:=fun w0=>src_writes w0 s x6 x7 hg
 rw [<-hL] at hr hLl
 simp only [<-hL] at HU hcase
 replace hL:=Lib.hid hL
 unfold stmtV at HU HW
 unfold progV at HS
 clear hbk
 obtain⟨p0,p1,p2,p3⟩:=hP.cells
 obtain⟨s0,s1,s2,s3,s4,s5,s6,s7⟩:=hS.cells
 have hkpl:=blk_lt hP
 have hksl:=blk_lt hS
 go_enter Tryz.func149,Tryz.ntmps149
 unfold stmtV progV
 go_wp2_with fail
 have hWu:W=(w.alloc (.cells #[.int .i64 p.q,.int .i64 p.n,.slice Va p.vars.length vc,.slice Ab p.body.length cb] 27)).alloc (.cells #[.int .i64 s.op,.int .i64 s.d,.int .i64 s.a,.int .i64 s.b,.int .i64 s.c,.int .i64 s.k,x6,x7] 66):=hW
 rw [<-hWu]
 simp only [<-hkp,<-hks]
 clear hW hWu
 replace hkp:=Lib.hid hkp
 replace hks:=Lib.hid hks
 rcases hcase with h1|⟨h1,h2⟩|⟨h1,h2,h3⟩|⟨h1,h2,h3,h4,hno⟩
 ·simp only [h1,if_false,Bool.false_eq_true] at HW
  replace h1:=Lib.hid h1
  go_wp2_with (first|(go_at_call 144;refine (HW _).mono ?_;rintro e w1 ⟨rfl,hb1⟩;have P1:PBox w1 kp p Va Ab vc cb:=below_blk hb1 hP hkpl;have S1:SB w1 ks s x6 x7:=below_blk hb1 hS hksl;have hb2:=hb0.trans (lower_below hb1 hb0.size);clear p0 p1 p2 p3 s0 s1 s2 s3 s4 s5 s6 s7;obtain⟨p0,p1,p2,p3⟩:=P1.cells;obtain⟨s0,s1,s2,s3,s4,s5,s6,s7⟩:=S1.cells))
  exact bodyPost_ret (v:= .bool false) (by simp [results,Tryz.results149,go_sem]) rfl ⟨rfl,hb2⟩
 ·simp only [h1,if_true] at HW
  have hd':=hd h1
  have hd0:=hd'.1
  have hd1:=hd'.2
  replace h1:=Lib.hid h1
  obtain⟨ad,rfl,kk0,kk⟩:=at_T901 hp.v s.d hd0 hd1
  have kd:=fun (w0:World) (hb:Below w.heap.size w w0)=>cell_since hb kk
  rw [h2] at kd
  replace h2:=Lib.hid h2
  go_wp2_with (first|(go_at_call 144;refine (HW _).mono ?_;rintro e w1 ⟨rfl,hb1⟩;have P1:PBox w1 kp p (some ad) Ab vc cb:=below_blk hb1 hP hkpl;have S1:SB w1 ks s x6 x7:=below_blk hb1 hS hksl;have hb2:=hb0.trans (lower_below hb1 hb0.size);clear p0 p1 p2 p3 s0 s1 s2 s3 s4 s5 s6 s7;obtain⟨p0,p1,p2,p3⟩:=P1.cells;obtain⟨s0,s1,s2,s3,s4,s5,s6,s7⟩:=S1.cells;have kd1:=kd w1 hb2))
  exact bodyPost_ret (v:= .bool false) (by simp [results,Tryz.results149,go_sem]) rfl ⟨rfl,hb2⟩
 ·simp only [h1,if_true] at HW
  have hd':=hd h1
  have hd0:=hd'.1
  have hd1:=hd'.2
  replace h1:=Lib.hid h1
  obtain⟨ad,rfl,kk0,kk⟩:=at_T901 hp.v s.d hd0 hd1
  have kd:=fun (w0:World) (hb:Below w.heap.size w w0)=>cell_since hb kk
  rw [h2] at kd
  replace h2:=Lib.hid h2
  have z12:(s.op !=12)=false:=by simp [h3]
  have z13:decide (s.op=13)=false:=decide_eq_false (by omega)
  replace h3:=Lib.hid h3
  go_wp2_with (first|(go_at_call 144;refine (HW _).mono ?_;rintro e w1 ⟨rfl,hb1⟩;have P1:PBox w1 kp p (some ad) Ab vc cb:=below_blk hb1 hP hkpl;have S1:SB w1 ks s x6 x7:=below_blk hb1 hS hksl;have hb2:=hb0.trans (lower_below hb1 hb0.size);clear p0 p1 p2 p3 s0 s1 s2 s3 s4 s5 s6 s7;obtain⟨p0,p1,p2,p3⟩:=P1.cells;obtain⟨s0,s1,s2,s3,s4,s5,s6,s7⟩:=S1.cells;have kd1:=kd w1 hb2))
  go_big_quiet (fail)
  go_wp2_with fail
  exact bodyPost_ret (v:= .bool false) (by simp [results,Tryz.results149,go_sem]) rfl ⟨rfl,Go.Proofs.YtkplfaionpplaaaGreatDoorW.PrintWords.pw_below_drewN hb2 _⟩
 ·simp only [h1,if_true] at HW
  have hd':=hd h1
  have hd0:=hd'.1
  have hd1:=hd'.2
  replace h1:=Lib.hid h1
  obtain⟨ad,rfl,kk0,kk⟩:=at_T901 hp.v s.d hd0 hd1
  have kd:=fun (w0:World) (hb:Below w.heap.size w w0)=>cell_since hb kk
  rw [h2] at kd
  replace h2:=Lib.hid h2
  have z12:(s.op !=12)=true:=by simp [h3]
  have z13:(s.op == 13)=false:=beq_false_of_ne h4
  replace h3:=Lib.hid h3
  replace h4:=Lib.hid h4
  go_wp2_with (first|(go_at_call 144;refine (HW _).mono ?_;rintro e w1 ⟨rfl,hb1⟩;have P1:PBox w1 kp p (some ad) Ab vc cb:=below_blk hb1 hP hkpl;have S1:SB w1 ks s x6 x7:=below_blk hb1 hS hksl;have hb2:=hb0.trans (lower_below hb1 hb0.size);clear p0 p1 p2 p3 s0 s1 s2 s3 s4 s5 s6 s7;obtain⟨p0,p1,p2,p3⟩:=P1.cells;obtain⟨s0,s1,s2,s3,s4,s5,s6,s7⟩:=S1.cells;have kd1:=kd w1 hb2))
  go_region_held3 (fun w'=>w'.cell? ⟨kp,0,none⟩=some (.int .i64 p.q)/\w'.cell? ⟨kp,1,none⟩=some (.int .i64 p.n)/\w'.cell? ⟨kp,2,none⟩=some (.slice (some ad) p.vars.length vc)/\w'.cell? ⟨kp,3,none⟩=some (.slice Ab p.body.length cb)/\w'.cell? ⟨ks,0,none⟩=some (.int .i64 s.op)/\w'.cell? ⟨ks,1,none⟩=some (.int .i64 s.d)/\w'.cell? ⟨ks,2,none⟩=some (.int .i64 s.a)/\w'.cell? ⟨ks,3,none⟩=some (.int .i64 s.b)/\w'.cell? ⟨ks,4,none⟩=some (.int .i64 s.c)/\w'.cell? ⟨ks,5,none⟩=some (.int .i64 s.k)/\w'.cell? ⟨ks,6,none⟩=some x6/\w'.cell? ⟨ks,7,none⟩=some x7) ((refine⟨?_,?_,?_,?_,?_,?_,?_,?_,?_,?_,?_,?_⟩<;> assumption)) (first
   |(go_at_call 143;refine (HU _).mono ?_;rintro e w2 ⟨v,rfl,hown,hb3⟩;replace hb3:=undrew hb3;obtain⟨av,cv,rfl⟩:=own_slice hown;have P2:PBox w2 kp p (some ad) Ab vc cb:=below_blk hb3 P1 (blk_lt P1);have S2:SB w2 ks _ x6 x7:=below_blk hb3 S1 (blk_lt S1);have hb4:=hb2.trans (lower_below hb3 hb2.size);clear p0 p1 p2 p3 s0 s1 s2 s3 s4 s5 s6 s7;obtain⟨p0,p1,p2,p3⟩:=P2.cells;obtain⟨s0,s1,s2,s3,s4,s5,s6,s7⟩:=S2.cells)
   |(go_at_call 148;refine (HS _).mono ?_;rintro e w3 ⟨kq,rfl,hQ,hb5⟩;have P3:PBox w3 kp p (some ad) Ab vc cb:=below_blk hb5 P2 (blk_lt P2);have S3:SB w3 ks _ x6 x7:=below_blk hb5 S2 (blk_lt S2);have hb6:=hb4.trans (lower_below hb5 hb4.size);have hown2:=own_of hown fun k hk=>hb5.block k (hown.lt k hk).2;clear p0 p1 p2 p3 s0 s1 s2 s3 s4 s5 s6 s7;obtain⟨p0,p1,p2,p3⟩:=P3.cells;obtain⟨s0,s1,s2,s3,s4,s5,s6,s7⟩:=S3.cells)
   |(go_at_call 147;refine (contains_no (hp.below hb6) hQ (own_ints hown2) hLl hr hno).mono ?_;rintro e w4 ⟨rfl,rfl⟩))
  go_wp2_with fail
  exact bodyPost_ret (v:= .bool false) (by simp [results,Tryz.results149,go_sem]) rfl ⟨rfl,hb6⟩
theorem breaks_no {w:World}{p:Al.Prog}{Va Ab:Option Addr}{vc cb:Nat}(hp:PLies w p Va Ab vc cb)(s:Al.Stmt)(x6 x7:Value){g:Al.Has}(hg:Al.hasOf s.op=some g)(hr:∀ v∈Al.usesOf s,0<=v/\v<p.vars.length)(hd:g.d=true->0<=s.d/\s.d<p.vars.length)(hbk:Al.breaksB p.vars s=false):
  Calls Tryz.prog 109 #[progV p Va Ab vc cb,.agg (stmtV s x6 x7)] w fun e w'=>e= .returned (.bool false)/\Below w.heap.size w w':=by
 by_cases hop:s.op=14\/s.op=16
 ·exact breaks_if hp s x6 x7 hg hr hd hbk hop
 have hop2:s.op≠14/\s.op≠16:=by omega
 obtain⟨W,hW⟩:∃ W,W=(w.alloc (.cells #[.int .i64 p.q,.int .i64 p.n,.slice Va p.vars.length vc,.slice Ab p.body.length cb] 27)).alloc (.cells (stmtV s x6 x7) 66):=⟨_,rfl⟩
 obtain⟨kp,hkp⟩:∃ kp,kp=w.heap.size:=⟨_,rfl⟩
 obtain⟨ks,hks⟩:∃ ks,ks=kp+1:=⟨_,rfl⟩
 have hb0:Below w.heap.size w W:=by rw [hW];exact alloc_two _ _ _
 have hP:PBox W kp p Va Ab vc cb:=by rw [hW,hkp];exact alloc_blk _ (heap_alloc_new w _)
 have hS:SB W ks s x6 x7:=by rw [hW,hks,hkp];exact alloc_at _ _ _
 have hpl:=hp.below hb0
 have HSP:=spills_no hpl s x6 x7 hg hr hd hbk hop2
 have z14:(s.op == 14)=false:=beq_false_of_ne hop2.1
 have z16:(s.op == 16)=false:=beq_false_of_ne hop2.2
 have y14:decide (s.op=14)=false:=decide_eq_false hop2.1
 have y16:decide (s.op=16)=false:=decide_eq_false hop2.2
 unfold stmtV at HSP hW
 unfold progV at HSP
 rw [hW] at HSP hb0
 clear hop
 go_enter Tryz.func109,Tryz.ntmps109
 unfold stmtV progV
 go_wp2_with (first|(go_at_call 149;refine HSP.mono ?_;rintro e w1 ⟨rfl,hb1⟩))
 exact bodyPost_ret (v:= .bool false) (by simp [results,Tryz.results109,go_sem]) rfl ⟨rfl,hb0.trans (lower_below hb1 hb0.size)⟩
structure AllI (W0:World)(n0 kp ko kn:Nat)(p:Al.Prog)(Va Ab:Option Addr)(vc cb:Nat)(j:Nat)(w:World):Prop where
 below:Below W0.heap.size W0 w
 size:n0<=w.heap.size
 p:PBox w kp p Va Ab vc cb
 o:w.heap[ko]?=some (.cells #[.slice none 0 0] 86 (0,0))
 n:w.heap[kn]?=some (.cells #[.int .i64 j] 3 (0,0))
theorem AllI.step {W0:World}{n0 kp ko kn:Nat}{p:Al.Prog}{Va Ab:Option Addr}{vc cb:Nat}{j:Nat}{w w':World}(h:AllI W0 n0 kp ko kn p Va Ab vc cb j w)(hW:W0.heap.size<=w.heap.size)(hb:Below w.heap.size w w'):AllI W0 n0 kp ko kn p Va Ab vc cb j w':=
 ⟨h.below.trans (lower_below hb hW),Nat.le_trans h.size hb.size,below_blk hb h.p (blk_lt h.p),below_blk hb h.o (blk_lt h.o),below_blk hb h.n (blk_lt h.n)⟩
theorem all_visit {W0:World}{n0 kp ko kn N:Nat}{p:Al.Prog}{Va Ab:Option Addr}{vc cb:Nat}(hp:PLies W0 p Va Ab vc cb)(hN:N<=100)(hkn:W0.heap.size<=kn)(hno:kn≠ko)(hnp:kn≠kp):
  VisitC W0 108 [.pointer (some ⟨kp,0,none⟩),.pointer (some ⟨ko,0,none⟩),.pointer (some ⟨kn,0,none⟩)] N (fun s=>Al.oneF p.q p.vars s=0/\Al.breaksB p.vars s=false) (AllI W0 n0 kp ko kn p Va Ab vc cb) (fun k=>k=kn):=by
 intro j w s A6 A7 c6 c7 deep hP hd hj g6 g7 hI
 obtain⟨g,hg,hrange,hnum,hkind⟩:=Al.oneF_parts hP.1
 obtain⟨x6,hx6⟩:∃ x6,x6=Value.slice A6 s.body.length c6:=⟨_,rfl⟩
 obtain⟨x7,hx7⟩:∃ x7,x7=Value.slice A7 s.els.length c7:=⟨_,rfl⟩
 rw [<-hx6,<-hx7]
 clear hx6 hx7
 have hsz:W0.heap.size<=w.heap.size:=hI.below.size
 have hb0:Below w.heap.size w (w.alloc (.cells (stmtV s x6 x7) 66)):=(Below.refl _ _).alloc (Nat.le_refl _) _
 have hI1:=hI.step hsz hb0
 have HB:=breaks_no (hp.below hI1.below) s x6 x7 hg (fun v hv=>hrange v (by simp [hv])) (fun h=>hrange s.d (by simp [h])) hP.2
 have hC1:=chg_alloc w (fun k=>k=kn) (.cells (stmtV s x6 x7) 66)
 have p1:∀ o,PBox (w.alloc o) kp p Va Ab vc cb:=fun o=>alloc_blk o hI.p
 have q0:=fun o=>(p1 o).cells.1
 have q1:=fun o=>(p1 o).cells.2.1
 have q2:=fun o=>(p1 o).cells.2.2.1
 have q3:=fun o=>(p1 o).cells.2.2.2
 unfold stmtV at HB hI1 hC1 hb0
 unfold progV at HB
 go_enter Tryz.func108,Tryz.ntmps108
 unfold stmtV
 go_wp2_with (first|(go_at_call 109;refine HB.mono ?_;rintro e w1 ⟨rfl,hb1⟩;have hI2:=hI1.step (by simp;omega) hb1;have n2:w1.cell? ⟨kn,0,none⟩=some (.int .i64 j):=(cell_blk hI2.n _).trans rfl;have f2:=frozen_blk hI2.n 0))
 have hcast:((j+1:Nat):Int)=(j:Int)+1:=by simp
 refine bodyPost_ret (v:= .bool true) (by simp [results,Tryz.results108,go_sem]) rfl ⟨rfl,⟨below_set hI2.below hkn,?_,?_,?_,?_⟩,(hC1.trans (Chg.of_below _ hb1)).trans (chg_set rfl)⟩
 ·rw [set_size];exact hI2.size
 ·exact (set_blk_ne _ _ (Ne.symm hnp)).trans hI2.p
 ·exact (set_blk_ne _ _ (Ne.symm hno)).trans hI2.o
 ·rw [hcast];exact set_blk hI2.n 0 _
end Go.Proofs.YtkplfaionpplaaaGreatDoor
