/- Part 20: B101, P44, B102. -/
import Derived.Test.YtkplfaionpplaaaGreatDoorK19
set_option maxRecDepth 100000
set_option maxHeartbeats 6400000
set_option linter.unusedVariables false
set_option linter.unusedSimpArgs false
namespace Go.Proofs.YtkplfaionpplaaaGreatDoor
open Go.RowKit Go.Proofs.YtkplfaionpplaaaGreatDoorW.PrintWords Go.Proofs.YtkplfaionpplaaaGreatDoorW.PrintLast
theorem Chg.mono {w w':World}{f g h:Nat->Prop}(c:Chg w w' f g)(hh:∀ k,h k->g k):Chg w w' f h:=⟨c.os,c.tape,c.output,c.size,c.keep,fun k hk=>c.foot k (hh k hk)⟩
theorem get_left {α:Type}{a b:List α}{k:Nat}{x:α}(h:a[k]?=some x):(a++b)[k]?=some x:=by
 rw [List.getElem?_append_left (List.getElem?_eq_some_iff.1 h).1];exact h
theorem get_right {α:Type}{a b:List α}{k:Nat}{x:α}(h:b[k]?=some x):(a++b)[a.length+k]?=some x:=by
 rw [List.getElem?_append_right (by omega),Nat.add_sub_cancel_left];exact h
theorem get_mid {α:Type}{a b c:List α}{k:Nat}{x:α}(h:b[k]?=some x):(a++b++c)[a.length+k]?=some x:=get_left (get_right h)
section
variable (W0:World) (f:FuncId) (caps:List Value) (N:Nat) (P:Nat->Al.Stmt->Nat->Prop) (bad:Al.Stmt->Nat->Bool) (I:Nat->World->Prop) (X:Nat->Al.Stmt->World->Prop) (G:World->Nat->Prop)
@[reducible] def OutX (r:Option (Nat×Al.Stmt)) (n:Nat) (w:World):Prop:=
 match r with
 |none=>I n w
 |some (i,s)=>X i s w
def VisitX:Prop:=∀ (j:Nat) (w:World) (s:Al.Stmt) (A6 A7:Option Addr) (c6 c7:Nat) (deep:Nat),P j s deep->deep<=7->j<N->kStmt.C W0 A6 s.body.length s.body->kStmt.C W0 A7 s.els.length s.els->I j w->
 Calls Tryz.prog f ((Value.agg (stmtV s (.slice A6 s.body.length c6) (.slice A7 s.els.length c7)) :: Value.int .i64 deep :: caps).toArray) w fun e w'=>e= .returned (.bool (!bad s deep))/\OutX I X (if bad s deep then some (j,s) else none) (j+1) w'/\Chg w w' (G w) (G w')
def EachX (m:Nat):Prop:=∀ (l:List Al.Stmt) (A:Option Addr) (cap:Nat) (deep j:Nat) (w:World),Al.depthL l<m->kStmt.C W0 A l.length l->l.length<=cap->(∀ k x,(Al.flatDL l deep)[k]?=some x->P (j+k) x.1 x.2)->deep<=7->j+(Al.flatL l).length<=N->I j w->
 Calls Tryz.prog 141 #[.slice A l.length cap,.int .i64 deep,.func (.func f) #[] caps.toArray] w fun e w'=>e= .returned (.bool (Al.stopAt bad (Al.flatDL l deep) j).isNone)/\OutX I X (Al.stopAt bad (Al.flatDL l deep) j) (j+(Al.flatL l).length) w'/\Chg w w' (G w) (G w')
end
theorem eachx_step {W0:World}{f:FuncId}{caps:List Value}{N:Nat}{P:Nat->Al.Stmt->Nat->Prop}{bad:Al.Stmt->Nat->Bool}{I:Nat->World->Prop}{X:Nat->Al.Stmt->World->Prop}{G:World->Nat->Prop}(hN:N<=1000){fn:Func}(hfn:Tryz.prog.funcs[f]?=some fn)(hname:(fn.name == "runtime.NumGoroutine")=false)(hbody:fn.body.isSome=true)
  (hbad:∀ j s deep,P j s deep->bad s deep=false->deep<=6) (hI:∀ j w,I j w->Below W0.heap.size W0 w) (hG:∀ j w,I j w->∀ k,G w k->k<w.heap.size) (hGs:∀ j w w',I j w->Below w.heap.size w w'->∀ k,G w' k->G w k) (hstep:∀ j w w',I j w->Below w.heap.size w w'->I j w') (hf:VisitX W0 f caps N P bad I X G) (m:Nat) (hm:0<m->EachX W0 f caps N P bad I X G (m - 1)):EachX W0 f caps N P bad I X G m:=by
 intro l A cap deep j w hd hl hcap hP hdeep hj hi
 have hll:=flatL_len l
 obtain⟨r9,hr9⟩:∃ r,r=Al.stopAt bad (Al.flatDL l deep) j:=⟨_,rfl⟩
 rw [<-hr9]
 replace hr9:=Lib.hid hr9
 have HL:=Lib.hid hl
 have HI:=Lib.hid hi
 clear hl hi
 go_enter Tryz.func141,Tryz.ntmps141
 go_wp2_with fail
 go_loopg [8,11] (l.length+1) (fun gk v8 v11 w'=>∃ i:Nat,v11= .int .i64 i/\i+gk=l.length+1/\i<=l.length/\Hid (Al.stopAt bad (Al.flatDL (l.take i) deep) j=none/\I (j+(Al.flatL (l.take i)).length) w'/\Chg w w' (G w) (G w')))
 case atStart=>exact⟨0,rfl,by omega,by omega,show _/\_/\_ from⟨by simp [Al.flatDL,Al.stopAt],by simpa [Al.flatL] using (show I j w from HI),Chg.refl _ _⟩⟩
 case round=>
  obtain⟨i,rfl,hg,hi2,HR⟩:=hrel
  by_cases hil:i<l.length
  ·obtain⟨k1,rfl⟩:∃ k1,gk=k1+1:=⟨gk - 1,by omega⟩
   obtain⟨hST,hR,hC⟩:=show _/\I _ wr/\Chg w wr (G w) (G wr) from HR
   have hB1:=hI _ _ hR
   obtain⟨ad,A6,c6,A7,c7,rfl,d0,d1,d2,d3,d4,d5,d6,d7,l6,g6,l7,g7⟩:=at_T902 (show kStmt.C W0 A l.length l from HL) (i:Int) (by omega) (by omega)
   replace d0:=cell_since hB1 d0
   replace d1:=cell_since hB1 d1
   replace d2:=cell_since hB1 d2
   replace d3:=cell_since hB1 d3
   replace d4:=cell_since hB1 d4
   replace d5:=cell_since hB1 d5
   replace d6:=cell_since hB1 d6
   replace d7:=cell_since hB1 d7
   simp only [Int.toNat_natCast] at d0 d1 d2 d3 d4 d5 d6 d7
   obtain⟨s,hs⟩:∃ s,s=rd_T902 l (i:Int):=⟨_,rfl⟩
   simp only [<-hs] at d0 d1 d2 d3 d4 d5 d6 d7 l6 g6 l7 g7
   rw [rd_get l i hil] at hs
   have hds:=depth_get l i hil
   rw [<-hs] at hds
   have hdn:=depthS_nonneg s
   have hdb:=depth_body s
   have htk:Al.flatL (l.take (i+1))=Al.flatL (l.take i)++Al.flatS s:=by rw [take_succ l i hil,flatL_append,flatL_one,hs]
   have htd:Al.flatDL (l.take (i+1)) deep=Al.flatDL (l.take i) deep++Al.flatDS s deep:=by rw [take_succ l i hil,Al.flatDL_append,Al.flatDL_one,hs]
   obtain⟨r,hr⟩:∃ r,Al.flatL l=Al.flatL (l.take (i+1))++r:=⟨Al.flatL (l.drop (i+1)),by rw [<-flatL_append,List.take_append_drop]⟩
   obtain⟨rd,hrd⟩:∃ r,Al.flatDL l deep=Al.flatDL (l.take (i+1)) deep++r:=⟨Al.flatDL (l.drop (i+1)) deep,by rw [<-Al.flatDL_append,List.take_append_drop]⟩
   have hln:(Al.flatL l).length=(Al.flatL (l.take i)).length+(Al.flatS s).length+r.length:=by rw [hr,htk];simp only [List.length_append]
   have hfs:(Al.flatS s).length=1+(Al.flatL s.body).length+(Al.flatL s.els).length:=by rw [flatS_eq];simp;omega
   have htl:(Al.flatL (l.take (i+1))).length=(Al.flatL (l.take i)).length+(Al.flatS s).length:=by rw [htk,List.length_append]
   obtain⟨J,hJ⟩:∃ J,J=j+(Al.flatL (l.take i)).length:=⟨_,rfl⟩
   have hPs:∀ k x,(Al.flatDS s deep)[k]?=some x->P (J+k) x.1 x.2:=fun k x hx=>by
    have:=hP ((Al.flatL (l.take i)).length+k) x (by rw [hrd,htd,<-Al.flatDL_len _ deep];exact get_mid hx)
    rwa [<-Nat.add_assoc,<-hJ] at this
   have hP0:P J s deep:=hPs 0 (s,deep) (by rw [Al.flatDS_eq];rfl)
   have hP1:∀ k x,(Al.flatDL s.body (deep+1))[k]?=some x->P (J+1+k) x.1 x.2:=fun k x hx=>by
    have:=hPs (1+k) x (by rw [Al.flatDS_eq,show 1+k=k+1 by omega,List.getElem?_cons_succ];exact get_left hx)
    rwa [<-Nat.add_assoc] at this
   have hP2:∀ k x,(Al.flatDL s.els (deep+1))[k]?=some x->P (J+1+(Al.flatL s.body).length+k) x.1 x.2:=fun k x hx=>by
    have:=hPs (1+(Al.flatL s.body).length+k) x (by rw [Al.flatDS_eq,show 1+(Al.flatL s.body).length+k=((Al.flatL s.body).length+k)+1 by omega,List.getElem?_cons_succ,<-Al.flatDL_len _ (deep+1)];exact get_right hx)
    rwa [<-Nat.add_assoc,<-Nat.add_assoc] at this
   clear hPs
   have hsd:Al.stopAt bad (Al.flatDL (l.take (i+1)) deep) j=(if bad s deep then some (J,s) else match Al.stopAt bad (Al.flatDL s.body (deep+1)) (J+1) with|none=>Al.stopAt bad (Al.flatDL s.els (deep+1)) (J+1+(Al.flatL s.body).length)|some r=>some r):=by
    rw [htd,Al.stopAt_append,hST]
    show Al.stopAt bad (Al.flatDS s deep) _=_
    rw [Al.flatDL_len,<-hJ,Al.flatDS_eq]
    show (if bad s deep=true then some (J,s) else Al.stopAt bad _ (J+1))=_
    rw [Al.stopAt_append,Al.flatDL_len]
    rfl
   have hsr:∀ x,Al.stopAt bad (Al.flatDL (l.take (i+1)) deep) j=some x->r9=some x:=fun x hx=>by rw [show r9=_ from hr9,hrd,Al.stopAt_append,hx]
   replace hs:=Lib.hid hs
   have r0:(0:Int)<=(i:Int):=by omega
   have r1:(i:Int)<(l.length:Int):=by omega
   have r2:decide ((i:Int)<(l.length:Int))=true:=decide_eq_true r1
   have hbw:Below wr.heap.size wr (wr.alloc (.cells (stmtV s (.slice A6 s.body.length c6) (.slice A7 s.els.length c7)) 66)):=(Below.refl _ _).alloc (Nat.le_refl _) _
   have hR1:=hstep _ _ _ hR hbw
   have HV:=hf _ _ s A6 A7 c6 c7 deep (by rw [<-hJ];exact hP0) hdeep (by omega) g6 g7 hR1
   have hbx:(wr.alloc (.cells (stmtV s (.slice A6 s.body.length c6) (.slice A7 s.els.length c7)) 66)).heap[wr.heap.size]?=some (.cells (stmtV s (.slice A6 s.body.length c6) (.slice A7 s.els.length c7)) 66 (0,0)):=heap_alloc_new wr _
   have hnF:¬G (wr.alloc (.cells (stmtV s (.slice A6 s.body.length c6) (.slice A7 s.els.length c7)) 66)) wr.heap.size:=fun h=>by have:=hG _ _ hR _ (hGs _ _ _ hR hbw _ h);omega
   have hC1:=hC.trans ((Chg.of_below (G wr) hbw).mono (hGs _ _ _ hR hbw))
   unfold stmtV at HV hC1 hbx hnF
   clear hR hR1 HR hbw hST
   rw [<-hJ] at HV
   have hm1:=hm (by omega)
   have hsg:=hbad J s deep hP0
   clear hP0
   replace htl:=Lib.hid htl
   replace hln:=Lib.hid hln
   replace hfs:=Lib.hid hfs
   replace hJ:=Lib.hid hJ
   replace hr:=Lib.hid hr
   replace hrd:=Lib.hid hrd
   replace htk:=Lib.hid htk
   replace htd:=Lib.hid htd
   rcases hbd:bad s deep with _|_
   case true=>
    rw [hbd,if_pos rfl] at HV
    have hsx:=hsr (J,s) (by rw [hsd,if_pos hbd])
    replace hsx:=Lib.hid hsx
    clear hsd hsr hbd hsg
    go_wp2_with fail
    rw [enters_ hfn hname hbody,Oper.upon_enter]
    refine (show Calls Tryz.prog f _ _ _ from HV).mono ?_
    rintro e w2 ⟨rfl,hI2,hC2⟩
    replace hC2:=hC1.trans hC2
    clear HV hC hC1
    go_wp2_with fail
    exact bodyPost_ret (v:= .bool false) (by simp [results,Tryz.results141,go_sem]) rfl ⟨by rw [show r9=some _ from hsx];rfl,by rw [show r9=some _ from hsx];exact hI2,hC2⟩
   case false=>
   have hsg:=hsg hbd
   rw [hbd,if_neg (by decide)] at HV
   rw [if_neg (by rw [hbd];simp)] at hsd
   replace hbd:=Lib.hid hbd
   have HB:=fun (w2:World) (hI2:I (J+1) w2)=>hm1 s.body A6 c6 (deep+1) (J+1) w2 (by omega) g6 l6 hP1 (by omega) (by have h1:(Al.flatS s).length=_:=hfs;have h2:(Al.flatL l).length=_:=hln;have h3:J=_:=hJ;omega) hI2
   have HE:=fun (w3:World) (hI3:I (J+1+(Al.flatL s.body).length) w3)=>hm1 s.els A7 c7 (deep+1) (J+1+(Al.flatL s.body).length) w3 (by omega) g7 l7 hP2 (by omega) (by have h1:(Al.flatS s).length=_:=hfs;have h2:(Al.flatL l).length=_:=hln;have h3:J=_:=hJ;omega) hI3
   rw [show ((deep+1:Nat):Int)=(deep:Int)+1 by simp] at HB HE
   clear hsg hP1 hP2 hm1
   rcases hsb:Al.stopAt bad (Al.flatDL s.body (deep+1)) (J+1) with _|rb
   case some=>
    rw [hsb] at HB
    simp only [Option.isNone_some] at HB
    have hsx:=hsr rb (by rw [hsd,hsb])
    replace hsx:=Lib.hid hsx
    clear hsd hsr hsb HE
    go_wp2_with fail
    rw [enters_ hfn hname hbody,Oper.upon_enter]
    refine (show Calls Tryz.prog f _ _ _ from HV).mono ?_
    rintro e w2 ⟨rfl,hI2,hC2⟩
    obtain⟨hb2,hn2⟩:=hC2.blk hbx hnF
    have b6:w2.cell? ⟨wr.heap.size,6,none⟩=some (.slice A6 s.body.length c6):=(cell_blk hb2 _).trans rfl
    replace HB:=HB w2 hI2
    replace hC2:=hC1.trans hC2
    clear HV hC hC1
    go_wp2_with (first|(go_at_call 141;with_reducible refine HB.mono ?_;rintro e w3 ⟨rfl,hI3,hC3⟩;replace hC3:=hC2.trans hC3))
    exact bodyPost_ret (v:= .bool false) (by simp [results,Tryz.results141,go_sem]) rfl ⟨by rw [show r9=some _ from hsx];rfl,by rw [show r9=some _ from hsx];exact hI3,hC3⟩
   case none=>
   rw [hsb] at HB hsd
   simp only [Option.isNone_none] at HB
   dsimp only at hsd
   clear hsb
   rcases hse:Al.stopAt bad (Al.flatDL s.els (deep+1)) (J+1+(Al.flatL s.body).length) with _|re
   case some=>
    rw [hse] at HE
    simp only [Option.isNone_some] at HE
    have hsx:=hsr re (by rw [hsd,hse])
    replace hsx:=Lib.hid hsx
    clear hsd hsr hse
    go_wp2_with fail
    rw [enters_ hfn hname hbody,Oper.upon_enter]
    refine (show Calls Tryz.prog f _ _ _ from HV).mono ?_
    rintro e w2 ⟨rfl,hI2,hC2⟩
    obtain⟨hb2,hn2⟩:=hC2.blk hbx hnF
    have b6:w2.cell? ⟨wr.heap.size,6,none⟩=some (.slice A6 s.body.length c6):=(cell_blk hb2 _).trans rfl
    replace HB:=HB w2 hI2
    replace hC2:=hC1.trans hC2
    clear HV hC hC1
    go_wp2_with (first|(go_at_call 141;with_reducible refine HB.mono ?_;rintro e w3 ⟨rfl,hI3,hC3⟩;obtain⟨hb3,hn3⟩:=hC3.blk hb2 hn2;have b7:w3.cell? ⟨wr.heap.size,7,none⟩=some (.slice A7 s.els.length c7):=(cell_blk hb3 _).trans rfl;replace hC3:=hC2.trans hC3;replace HE:=HE w3 hI3;clear HB)|(go_at_call 141;with_reducible refine HE.mono ?_;rintro e w4 ⟨rfl,hI4,hC4⟩;replace hC4:=hC3.trans hC4;clear HE))
    exact bodyPost_ret (v:= .bool false) (by simp [results,Tryz.results141,go_sem]) rfl ⟨by rw [show r9=some _ from hsx];rfl,by rw [show r9=some _ from hsx];exact hI4,hC4⟩
   case none=>
   rw [hse] at HE hsd
   simp only [Option.isNone_none] at HE
   clear hse hsr
   replace hsd:=Lib.hid hsd
   go_wp2_with fail
   rw [enters_ hfn hname hbody,Oper.upon_enter]
   refine (show Calls Tryz.prog f _ _ _ from HV).mono ?_
   rintro e w2 ⟨rfl,hI2,hC2⟩
   obtain⟨hb2,hn2⟩:=hC2.blk hbx hnF
   have b6:w2.cell? ⟨wr.heap.size,6,none⟩=some (.slice A6 s.body.length c6):=(cell_blk hb2 _).trans rfl
   replace HB:=HB w2 hI2
   replace hC2:=hC1.trans hC2
   clear HV hC hC1
   go_wp2_with (first|(go_at_call 141;with_reducible refine HB.mono ?_;rintro e w3 ⟨rfl,hI3,hC3⟩;obtain⟨hb3,hn3⟩:=hC3.blk hb2 hn2;have b7:w3.cell? ⟨wr.heap.size,7,none⟩=some (.slice A7 s.els.length c7):=(cell_blk hb3 _).trans rfl;replace hC3:=hC2.trans hC3;replace HE:=HE w3 hI3;clear HB)|(go_at_call 141;with_reducible refine HE.mono ?_;rintro e w4 ⟨rfl,hI4,hC4⟩;replace hC4:=hC3.trans hC4;clear HE))
   have HN:Hid (Al.stopAt bad (Al.flatDL (l.take (i+1)) deep) j=none/\I (j+(Al.flatL (l.take (i+1))).length) w4/\Chg w w4 (G w) (G w4)):=by
    refine show _/\_/\_ from⟨hsd,?_,hC4⟩
    have e:j+(Al.flatL (l.take (i+1))).length=J+1+(Al.flatL s.body).length+(Al.flatL s.els).length:=by
     have h1:(Al.flatL (l.take (i+1))).length=_:=htl
     have h2:J=_:=hJ
     have h3:(Al.flatS s).length=_:=hfs
     omega
    rw [e];exact hI4
   go_roundg k1
   case measure=>omega
   case rel=>exact⟨i+1,by simp,by omega,by omega,HN⟩
  ·have hie:i=l.length:=by omega
   have t1:decide ((i:Int)<(l.length:Int))=false:=by simp;omega
   have HR:=show _/\_/\_ from HR
   rw [hie,List.take_length] at HR
   obtain⟨hn,HR⟩:=HR
   have hsx:=Lib.hid ((show r9=_ from hr9).trans hn)
   clear hn hie
   go_wp2_with fail
   exact bodyPost_ret (v:= .bool true) (by simp [results,Tryz.results141,go_sem]) rfl ⟨by rw [show r9=none from hsx];rfl,by rw [show r9=none from hsx];exact HR⟩
theorem eachx_all {W0:World}{f:FuncId}{caps:List Value}{N:Nat}{P:Nat->Al.Stmt->Nat->Prop}{bad:Al.Stmt->Nat->Bool}{I:Nat->World->Prop}{X:Nat->Al.Stmt->World->Prop}{G:World->Nat->Prop}(hN:N<=1000){fn:Func}(hfn:Tryz.prog.funcs[f]?=some fn)(hname:(fn.name == "runtime.NumGoroutine")=false)(hbody:fn.body.isSome=true)
  (hbad:∀ j s deep,P j s deep->bad s deep=false->deep<=6) (hI:∀ j w,I j w->Below W0.heap.size W0 w) (hG:∀ j w,I j w->∀ k,G w k->k<w.heap.size) (hGs:∀ j w w',I j w->Below w.heap.size w w'->∀ k,G w' k->G w k) (hstep:∀ j w w',I j w->Below w.heap.size w w'->I j w') (hf:VisitX W0 f caps N P bad I X G):∀ m,EachX W0 f caps N P bad I X G m
 |0=>eachx_step hN hfn hname hbody hbad hI hG hGs hstep hf 0 (fun h=>absurd h (by omega))
 |m+1=>eachx_step hN hfn hname hbody hbad hI hG hGs hstep hf (m+1) (fun _=>eachx_all hN hfn hname hbody hbad hI hG hGs hstep hf m)
theorem eachx_top {W0:World}{f:FuncId}{caps:List Value}{N:Nat}{P:Nat->Al.Stmt->Nat->Prop}{bad:Al.Stmt->Nat->Bool}{I:Nat->World->Prop}{X:Nat->Al.Stmt->World->Prop}{G:World->Nat->Prop}(hN:N<=1000){fn:Func}(hfn:Tryz.prog.funcs[f]?=some fn)(hname:(fn.name == "runtime.NumGoroutine")=false)(hbody:fn.body.isSome=true)
  (hbad:∀ j s deep,P j s deep->bad s deep=false->deep<=6) (hI:∀ j w,I j w->Below W0.heap.size W0 w) (hG:∀ j w,I j w->∀ k,G w k->k<w.heap.size) (hGs:∀ j w w',I j w->Below w.heap.size w w'->∀ k,G w' k->G w k) (hstep:∀ j w w',I j w->Below w.heap.size w w'->I j w') (hf:VisitX W0 f caps N P bad I X G)
  (l:List Al.Stmt) (A:Option Addr) (cap:Nat) (w:World) (hl:kStmt.C W0 A l.length l) (hcap:l.length<=cap) (hP:∀ k x,(Al.flatDL l 0)[k]?=some x->P k x.1 x.2) (hj:(Al.flatL l).length<=N) (hi:I 0 w):
  Calls Tryz.prog 104 #[.slice A l.length cap,.func (.func f) #[] caps.toArray] w fun e w'=>e= .returned (.tuple #[])/\OutX I X (Al.stopAt bad (Al.flatDL l 0) 0) (Al.flatL l).length w'/\Chg w w' (G w) (G w'):=by
 have hlen:=flatL_len l
 have HE:=eachx_all hN hfn hname hbody hbad hI hG hGs hstep hf ((Al.depthL l).toNat+1) l A cap 0 0 w (by omega) hl hcap (fun k x h=>by rw [Nat.zero_add];exact hP k x h) (by omega) (by omega) hi
 rw [Nat.zero_add] at HE
 go_enter Tryz.func104,Tryz.ntmps104
 go_wp2_with (first|(go_at_call 141;refine HE.mono ?_;rintro e w1 ⟨rfl,hI1,hC1⟩))
 exact bodyPost_end (v:= .tuple #[]) (by simp [results,Tryz.results104,go_sem]) rfl ⟨rfl,hI1,hC1⟩
end Go.Proofs.YtkplfaionpplaaaGreatDoor
namespace Go.Proofs.YtkplfaionpplaaaGreatDoor.Al
theorem oneF_five (q:Int)(vars:List Var)(s:Stmt):oneF q vars s=0\/oneF q vars s=101\/oneF q vars s=104\/oneF q vars s=106\/oneF q vars s=107:=by
 unfold oneF
 cases hasOf s.op with
 |none=>simp
 |some g=>dsimp only;(repeat' split)<;> simp
def kindOk (v:Var):Prop:=1<=v.kind/\v.kind<=3
theorem firstK_bad:∀ (l:List Var) (j i:Nat) (h:i<l.length),(∀ k,∀ (h:k<l.length),k<i->kindOk l[k])->¬kindOk l[i]->firstK l j= .at_ 101 (j+i:Nat)
 |[],_,i,h,_,_=>by simp at h
 |v :: l,j,0,h,_,hb=>by
  have:¬(v.kind=1\/v.kind=2\/v.kind=3):=fun h=>hb (show kindOk v by unfold kindOk;omega)
  unfold firstK;rw [if_neg this];rfl
 |v :: l,j,i+1,h,ha,hb=>by
  have h0:=ha 0 (by simp) (by omega)
  have:v.kind=1\/v.kind=2\/v.kind=3:=by have h1:kindOk v:=h0;unfold kindOk at h1;omega
  unfold firstK;rw [if_pos this]
  have:=firstK_bad l (j+1) i (by simpa using h) (fun k hk hki=>ha (k+1) (by simpa using hk) (by omega)) hb
  rw [show ((j:Int)+1)=((j+1:Nat):Int) by simp,this,show j+1+i=j+(i+1) by omega]
theorem firstK_ok:∀ (l:List Var) (j:Int),(∀ k,∀ (h:k<l.length),kindOk l[k])->firstK l j= .fine
 |[],_,_=>rfl
 |v :: l,j,ha=>by
  have h0:=ha 0 (by simp)
  have:v.kind=1\/v.kind=2\/v.kind=3:=by have h1:kindOk v:=h0;unfold kindOk at h1;omega
  unfold firstK;rw [if_pos this]
  exact firstK_ok l (j+1) fun k hk=>ha (k+1) (by simpa using hk)
section
variable {p:Prog}
theorem validF_ring (h:ringOk p.q p.n=false):validF p= .bare 101:=by unfold validF;rw [if_pos (by rw [h];rfl)]
theorem validF_many (h:ringOk p.q p.n=true)(hv:12<p.vars.length):validF p= .bare 103:=by unfold validF;rw [if_neg (by rw [h];simp),if_pos hv]
theorem validF_kind (h:ringOk p.q p.n=true)(hv:p.vars.length<=12)(i:Nat)(hi:i<p.vars.length)(ha:∀ k,∀ (h:k<p.vars.length),k<i->kindOk p.vars[k])(hb:¬kindOk p.vars[i]):validF p= .at_ 101 i:=by
 have:=firstK_bad p.vars 0 i hi ha hb
 rw [Nat.zero_add] at this
 have e:firstK p.vars 0= .at_ 101 i:=this
 unfold validF;rw [if_neg (by rw [h];simp),if_neg (by omega),if_pos (by rw [e];simp [Fault.at_]),e]
theorem validF_deep (h:ringOk p.q p.n=true)(hv:p.vars.length<=12)(ha:∀ k,∀ (h:k<p.vars.length),kindOk p.vars[k])(hd:6<depthL p.body):validF p= .bare 103:=by
 unfold validF;rw [if_neg (by rw [h];simp),if_neg (by omega),if_neg (by rw [firstK_ok _ _ ha];simp [Fault.fine]),if_pos (.inr hd)]
theorem validF_one (h:ringOk p.q p.n=true)(hv:p.vars.length<=12)(ha:∀ k,∀ (h:k<p.vars.length),kindOk p.vars[k])(hl:(flatL p.body).length<=100)(hd:depthL p.body<=6):validF p=firstF (oneF p.q p.vars) (flatL p.body) 0:=by
 unfold validF;rw [if_neg (by rw [h];simp),if_neg (by omega),if_neg (by rw [firstK_ok _ _ ha];simp [Fault.fine]),if_neg (by omega)]
end
theorem checkF_valid {p:Prog}(h:(validF p).code≠0):checkF p=validF p:=by unfold checkF;rw [if_pos h]
theorem checkF_secret {p:Prog}(h:(validF p).code=0):checkF p=firstF (fun s=>if breaksB p.vars s then 108 else 0) (flatL p.body) 0:=by unfold checkF;rw [if_neg (by simp [h])]
def brokeL (vars:List Var):List Stmt->Nat->List Int
 |[],_=>[]
 |s :: l,j=>(if breaksB vars s then [(j:Int)] else [])++brokeL vars l (j+1)
theorem brokeL_append (vars:List Var):∀ (l m:List Stmt) (j:Nat),brokeL vars (l++m) j=brokeL vars l j++brokeL vars m (j+l.length)
 |[],m,j=>by simp [brokeL]
 |s :: l,m,j=>by simp only [List.cons_append,brokeL,brokeL_append vars l m (j+1),List.append_assoc,List.length_cons,show j+1+l.length=j+(l.length+1) by omega]
theorem brokeL_len (vars:List Var):∀ (l:List Stmt) (j:Nat),(brokeL vars l j).length<=l.length
 |[],j=>by simp [brokeL]
 |s :: l,j=>by have:=brokeL_len vars l (j+1);simp only [brokeL,List.length_append,List.length_cons];split<;> simp<;> omega
theorem brokeL_snoc (vars:List Var)(l:List Stmt)(j:Nat)(h:j<l.length):brokeL vars (l.take (j+1)) 0=brokeL vars (l.take j) 0++(if breaksB vars l[j] then [(j:Int)] else []):=by
 rw [List.take_add_one,List.getElem?_eq_getElem h,brokeL_append]
 simp only [Option.toList,brokeL,List.append_nil,Nat.zero_add,List.length_take,Nat.min_eq_left (Nat.le_of_lt h)]
theorem firstF_broke (vars:List Var):∀ (l:List Stmt) (j:Nat),firstF (fun s=>if breaksB vars s then 108 else 0) l j=(match brokeL vars l j with|[]=> .fine|i :: _=> .at_ 108 i)
 |[],j=>rfl
 |s :: l,j=>by
  simp only [firstF,brokeL]
  by_cases h:breaksB vars s=true
  ·simp [h]
  ·have:=firstF_broke vars l (j+1)
   simp only [h,if_false,Bool.false_eq_true,ne_eq,not_true_eq_false,List.nil_append] at this ⊢
   rw [<-this];rfl
end Go.Proofs.YtkplfaionpplaaaGreatDoor.Al
namespace Go.Proofs.YtkplfaionpplaaaGreatDoor
open Go.RowKit Go.Proofs.YtkplfaionpplaaaGreatDoorW.PrintLast
structure CountX (W0:World)(n0 kn km:Nat)(w:World):Prop where
 below:Below W0.heap.size W0 w
 size:n0<=w.heap.size
 m:w.heap[km]?=some (.cells #[.bool true] 4 (0,0))
theorem count_visitx (W0:World){n0 kn km N:Nat}(hN:N<=100)(hkn:W0.heap.size<=kn)(hkm:W0.heap.size<=km)(hnm:kn≠km):
  VisitX W0 105 [.pointer (some ⟨kn,0,none⟩),.pointer (some ⟨km,0,none⟩)] N (fun _ _ _=>True) (fun _ d=>decide (6<d)) (CountI W0 n0 kn km) (fun _ _ w=>CountX W0 n0 kn km w) (fun _ k=>k=kn\/k=km):=by
 intro j w s A6 A7 c6 c7 deep hP hd hj g6 g7 hI
 obtain⟨x6,hx6⟩:∃ x6,x6=Value.slice A6 s.body.length c6:=⟨_,rfl⟩
 obtain⟨x7,hx7⟩:∃ x7,x7=Value.slice A7 s.els.length c7:=⟨_,rfl⟩
 rw [<-hx6,<-hx7]
 replace hx6:=Lib.hid hx6
 replace hx7:=Lib.hid hx7
 have hsz:W0.heap.size<=w.heap.size:=hI.below.size
 have n1:∀ o,(w.alloc o).cell? ⟨kn,0,none⟩=some (.int .i64 j):=fun o=>alloc_cell o ((cell_blk hI.n _).trans rfl)
 have m1:∀ o,(w.alloc o).cell? ⟨km,0,none⟩=some (.bool false):=fun o=>alloc_cell o ((cell_blk hI.m _).trans rfl)
 have fn1:∀ o,(w.alloc o).frozen? ⟨kn,0,none⟩=false:=fun o=>frozen_blk (alloc_blk o hI.n) 0
 have fm1:∀ o,(w.alloc o).frozen? ⟨km,0,none⟩=false:=fun o=>frozen_blk (alloc_blk o hI.m) 0
 have t1:decide ((100:Int)<(j:Int)+1)=false:=decide_eq_false (by omega)
 have hcast:((j+1:Nat):Int)=(j:Int)+1:=by simp
 dsimp only
 by_cases hdp:6<deep
 ·simp only [show decide (6<deep)=true from decide_eq_true hdp,Bool.not_true,if_true]
  have t2:decide ((6:Int)<(deep:Int))=true:=decide_eq_true (by omega)
  replace hcast:=Lib.hid hcast
  go_enter Tryz.func105,Tryz.ntmps105
  unfold stmtV
  go_wp2_with fail
  refine bodyPost_ret (v:= .bool false) (by simp [results,Tryz.results105,go_sem]) rfl ⟨rfl,⟨below_set (below_set (hI.below.alloc hsz _) hkn) hkm,?_,?_⟩,(chg_alloc _ _ _).trans ((chg_set (.inl rfl)).trans (chg_set (.inr rfl)))⟩
  ·rw [set_size,set_size];simp;have:=hI.size;omega
  ·exact set_blk ((set_blk_ne _ _ (Ne.symm hnm)).trans (alloc_blk _ hI.m)) 0 _
 ·simp only [show decide (6<deep)=false from decide_eq_false hdp,Bool.not_false,Bool.false_eq_true,if_false]
  have t2:decide ((6:Int)<(deep:Int))=false:=decide_eq_false (by omega)
  replace hcast:=Lib.hid hcast
  go_enter Tryz.func105,Tryz.ntmps105
  unfold stmtV
  go_wp2_with fail
  refine bodyPost_ret (v:= .bool true) (by simp [results,Tryz.results105,go_sem]) rfl ⟨rfl,⟨below_set (below_set (hI.below.alloc hsz _) hkn) hkm,?_,?_,?_⟩,(chg_alloc _ _ _).trans ((chg_set (.inl rfl)).trans (chg_set (.inr rfl)))⟩
  ·rw [set_size,set_size];simp;have:=hI.size;omega
  ·rw [show ((j+1:Nat):Int)=(j:Int)+1 from hcast]
   exact (set_blk_ne _ _ hnm).trans (set_blk (alloc_blk _ hI.n) 0 _)
  ·exact set_blk ((set_blk_ne _ _ (Ne.symm hnm)).trans (alloc_blk _ hI.m)) 0 _
structure ErrXI (W0:World)(A:Nat->Addr)(n0 ke:Nat)(q:Int)(vars:List Al.Var)(j:Nat)(s:Al.Stmt)(w:World):Prop where
 below:Below W0.heap.size W0 w
 size:n0<=w.heap.size
 e:∃ k,w.heap[ke]?=some (.cells #[.iface 125 (.pointer (some ⟨k,0,none⟩))] 44 (0,0))/\w.heap[k]?=some (.cells #[.int .i64 j,eV A (Al.oneF q vars s)] 127 (0,0))
theorem err_visitx {W0:World}{A:Nat->Addr}(S:Sent W0 A){n0 kp kn ke N:Nat}{q n:Int}{vars:List Al.Var}{Va:Option Addr}{vc:Nat}{xb:Value}(hv:kVar.C W0 Va vars.length vars)(hvl:vars.length<=12)(hq:0<=q/\q<8388608)(hN:N<=100)(hkn:W0.heap.size<=kn)(hke:W0.heap.size<=ke)(hne:kn≠ke)(hnp:kn≠kp):
  VisitX W0 106 [.pointer (some ⟨kp,0,none⟩),.pointer (some ⟨kn,0,none⟩),.pointer (some ⟨ke,0,none⟩)] N (fun _ _ d=>d<=6) (fun s _=>Al.oneF q vars s !=0) (ErrI W0 n0 kp kn ke q n vars.length Va vc xb) (ErrXI W0 A n0 ke q vars) (fun _ k=>k=kn\/k=ke):=by
 intro j w s A6 A7 c6 c7 deep hP hd hj g6 g7 hI
 obtain⟨x6,hx6⟩:∃ x6,x6=Value.slice A6 s.body.length c6:=⟨_,rfl⟩
 obtain⟨x7,hx7⟩:∃ x7,x7=Value.slice A7 s.els.length c7:=⟨_,rfl⟩
 have hsz:W0.heap.size<=w.heap.size:=hI.below.size
 have hb0:Below w.heap.size w (w.alloc (.cells (stmtV s (Value.slice A6 s.body.length c6) (Value.slice A7 s.els.length c7)) 66)):=(Below.refl _ _).alloc (Nat.le_refl _) _
 have hI1:=hI.step hsz hb0
 have HO:=src_one_x (S.below hI1.below) (q:=q) (n:=n) (vc:=vc) (xb:=xb) (A6:=A6) (A7:=A7) (c6:=c6) (c7:=c7) (Go.Proofs.YtkplfaionpplaaaGreatDoorW.PrintWords.Kd.C_below hv hI1.below) hvl s hq
 have hne2:=Ne.symm hne
 have hC1:=chg_alloc w (fun k=>k=kn\/k=ke) (.cells (stmtV s (Value.slice A6 s.body.length c6) (Value.slice A7 s.els.length c7)) 66)
 rw [<-hx6,<-hx7] at HO hI1 hC1 hb0 ⊢
 replace hx6:=Lib.hid hx6
 replace hx7:=Lib.hid hx7
 have p1:∀ o,(w.alloc o).heap[kp]?=_:=fun o=>alloc_blk o hI.p
 have q0:∀ o,(w.alloc o).cell? ⟨kp,0,none⟩=some (.int .i64 q):=fun o=>(cell_blk (p1 o) _).trans rfl
 have q1:∀ o,(w.alloc o).cell? ⟨kp,1,none⟩=some (.int .i64 n):=fun o=>(cell_blk (p1 o) _).trans rfl
 have q2:∀ o,(w.alloc o).cell? ⟨kp,2,none⟩=some (.slice Va vars.length vc):=fun o=>(cell_blk (p1 o) _).trans rfl
 have q3:∀ o,(w.alloc o).cell? ⟨kp,3,none⟩=some xb:=fun o=>(cell_blk (p1 o) _).trans rfl
 unfold stmtV at HO hI1 hC1 hb0
 have hcast:((j+1:Nat):Int)=(j:Int)+1:=by simp
 dsimp only
 by_cases hone:Al.oneF q vars s=0
 ·simp only [show (Al.oneF q vars s !=0)=false by simp [hone],Bool.not_false,Bool.false_eq_true,if_false]
  rw [hone] at HO
  have HO:Calls _ _ _ _ fun e w'=>e= .returned Value.nilIface/\_:=HO
  replace hcast:=Lib.hid hcast
  replace hone:=Lib.hid hone
  go_enter Tryz.func106,Tryz.ntmps106
  unfold stmtV
  go_wp2_with (first|(go_at_call 107;refine HO.mono ?_;rintro e w1 ⟨rfl,hb1⟩;have hI2:=hI1.step (by simp;omega) hb1;have n2:w1.cell? ⟨kn,0,none⟩=some (.int .i64 j):=(cell_blk hI2.n _).trans rfl;have f2:=frozen_blk hI2.n 0;have e2:w1.cell? ⟨ke,0,none⟩=some Value.nilIface:=(cell_blk hI2.e _).trans rfl))
  have hsz1:W0.heap.size<=w1.heap.size:=hI2.below.size
  refine bodyPost_ret (v:= .bool true) (by simp [results,Tryz.results106,go_sem]) rfl ⟨rfl,⟨below_set hI2.below hkn,?_,?_,?_,?_⟩,(hC1.trans (Chg.of_below _ hb1)).trans (chg_set (.inl rfl))⟩
  ·rw [set_size];exact hI2.size
  ·exact (set_blk_ne _ _ (Ne.symm hnp)).trans hI2.p
  ·rw [show ((j+1:Nat):Int)=(j:Int)+1 from hcast];exact set_blk hI2.n 0 _
  ·exact (set_blk_ne _ _ (Ne.symm hne)).trans hI2.e
 ·simp only [show (Al.oneF q vars s !=0)=true by simp [hone],Bool.not_true,if_true]
  have he:eV A (Al.oneF q vars s)=sv A (gN (Al.oneF q vars s)):=by unfold eV;rw [if_neg hone]
  obtain⟨g,hg⟩:∃ g,g=gN (Al.oneF q vars s):=⟨_,rfl⟩
  rw [he,<-hg] at HO
  have HX:∀ w,ErrXI W0 A n0 ke q vars j s w=ErrXI W0 A n0 ke q vars j s w:=fun _=>rfl
  unfold sv at HO
  replace hcast:=Lib.hid hcast
  replace hone:=Lib.hid hone
  replace hg:=Lib.hid hg
  replace he:=Lib.hid he
  clear HX
  go_enter Tryz.func106,Tryz.ntmps106
  unfold stmtV
  go_wp2_with (first|(go_at_call 107;refine HO.mono ?_;rintro e w1 ⟨rfl,hb1⟩;have hI2:=hI1.step (by simp;omega) hb1;have n2:w1.cell? ⟨kn,0,none⟩=some (.int .i64 j):=(cell_blk hI2.n _).trans rfl;have f2:=frozen_blk hI2.n 0;have e2:w1.cell? ⟨ke,0,none⟩=some Value.nilIface:=(cell_blk hI2.e _).trans rfl;have n3:=fun o=>alloc_cell o n2;have e3:=fun o=>alloc_cell o e2;have fe:=fun o=>frozen_blk (alloc_blk o hI2.e) 0;have fn:=fun o=>frozen_blk (alloc_blk o hI2.n) 0;clear f2))
  have hg':eV A (Al.oneF q vars s)=sv A g:=by rw [show eV A (Al.oneF q vars s)=_ from he,show g=_ from hg]
  have hkn1:=blk_lt hI2.n
  have hke1:=blk_lt hI2.e
  refine bodyPost_ret (v:= .bool false) (by simp [results,Tryz.results106,go_sem]) rfl ⟨rfl,⟨below_set (below_set (hI2.below.alloc hI2.below.size _) hke) hkn,?_,⟨w1.heap.size,?_,?_⟩⟩,(((hC1.trans (Chg.of_below _ hb1)).trans (chg_alloc _ _ _)).trans (chg_set (.inr rfl))).trans (chg_set (.inl rfl))⟩
  ·rw [set_size,set_size];simp;have:=hI2.size;omega
  ·exact (set_blk_ne _ _ hne2).trans (set_blk (alloc_blk _ hI2.e) 0 _)
  ·rw [hg']
   exact (set_blk_ne _ _ (by omega)).trans ((set_blk_ne _ _ (by omega)).trans (heap_alloc_new w1 _))
theorem q_range {q n:Int}(h:Al.ringOk q n=true):0<=q/\q<8388608:=by
 have h2:Al.isPrime q=true:=by unfold Al.ringOk at h;simp at h;exact h.1
 unfold Al.isPrime at h2
 simp only [Bool.or_eq_true,beq_iff_eq] at h2
 omega
theorem eV_sv {A:Nat->Addr}{q:Int}{vars:List Al.Var}{s:Al.Stmt}(h:Al.oneF q vars s≠0):∃ g,g<14/\Al.oneF q vars s=numS g/\eV A (Al.oneF q vars s)=sv A g:=by
 rcases Al.oneF_five q vars s with e|e|e|e|e
 ·exact absurd e h
 ·exact⟨0,by decide,by rw [e];rfl,by rw [e];rfl⟩
 ·exact⟨5,by decide,by rw [e];rfl,by rw [e];rfl⟩
 ·exact⟨4,by decide,by rw [e];rfl,by rw [e];rfl⟩
 ·exact⟨7,by decide,by rw [e];rfl,by rw [e];rfl⟩
theorem bareAt {w:World}{A:Nat->Addr}{g:Nat}(hg:g<14){f:Al.Fault}(h:f= .bare (numS g)):ErrAt w A f (sv A g):= .inr (.inl ⟨g,hg,h,rfl⟩)
theorem placedAt {w:World}{A:Nat->Addr}{f:Al.Fault}{i:Int}{g k:Nat}(hg:g<14)(h:f= .at_ (numS g) i)(hb:w.heap[k]?=some (.cells #[.int .i64 i,sv A g] 127 (0,0))):ErrAt w A f (.iface 125 (.pointer (some ⟨k,0,none⟩))):= .inr (.inr ⟨g,i,k,hg,h,rfl,hb⟩)
theorem src_valid_x {w:World}{A:Nat->Addr}(S:Sent w A){p:Al.Prog}(hvl0:p.vars.length<=1000)(hfl:(Al.flatL p.body).length<=100){Va Ab:Option Addr}{vc cb:Nat}(hp:PLies w p Va Ab vc cb):
  Calls Tryz.prog 70 #[progV p Va Ab vc cb] w fun e w'=>∃ v,e= .returned v/\ErrAt w' A (Al.validF p) v/\Below w.heap.size w w':=by
 obtain⟨R,hR⟩:∃ R,R=Al.validF p:=⟨_,rfl⟩
 rw [<-hR]
 replace hR:=Lib.hid hR
 obtain⟨W,hW⟩:∃ W,W=w.alloc (.cells #[.int .i64 p.q,.int .i64 p.n,.slice Va p.vars.length vc,.slice Ab p.body.length cb] 27):=⟨_,rfl⟩
 obtain⟨kp,hkp⟩:∃ kp,kp=w.heap.size:=⟨_,rfl⟩
 have hb0:Below w.heap.size w W:=by rw [hW];exact (Below.refl _ _).alloc (Nat.le_refl _) _
 have P0:PBox W kp p Va Ab vc cb:=by rw [hW,hkp];exact heap_alloc_new w _
 have hkl:kp<W.heap.size:=blk_lt P0
 go_enter Tryz.func70,Tryz.ntmps70
 unfold progV
 go_wp2_with fail
 rw [<-hW]
 simp only [<-hkp]
 replace hkp:=Lib.hid hkp
 clear hW
 cases hring:Al.ringOk p.q p.n with
 |false=>
  have HV:=valid_no (S.below hb0) p.q p.n hring
  unfold sv at HV
  have hRv:=Lib.hid ((show R=_ from hR).trans (Al.validF_ring hring))
  go_wp2_with (first|(go_at_call 61;refine HV.mono ?_;rintro e w1 ⟨rfl,hb1⟩;have hb2:=hb0.trans (lower_below hb1 hb0.size)))
  exact bodyPost_ret (v:= .iface 205 (.pointer (some (A 0)))) (by simp [results,Tryz.results70,go_sem]) rfl ⟨_,rfl,bareAt (g:=0) (by decide) (show R=_ from hRv),hb2⟩
 |true=>
 have HV:=valid_yes W p.q p.n hring
 by_cases hvl:12<p.vars.length
 ·have hRv:=Lib.hid ((show R=_ from hR).trans (Al.validF_many hring hvl))
  have z12:decide ((12:Int)<(p.vars.length:Int))=true:=decide_eq_true (by omega)
  go_wp2_with (first|(go_at_call 61;refine HV.mono ?_;rintro e w1 ⟨rfl,hb1⟩;have P1:PBox w1 kp p Va Ab vc cb:=below_blk hb1 P0 hkl;obtain⟨p0,p1,p2,p3⟩:=P1.cells;have hb2:=hb0.trans (lower_below hb1 hb0.size);have g1:=(S.below hb2).cell 1 (by decide);unfold sv at g1))
  exact bodyPost_ret (v:= .iface 205 (.pointer (some (A 1)))) (by simp [results,Tryz.results70,go_sem]) rfl ⟨_,rfl,bareAt (g:=1) (by decide) (show R=_ from hRv),hb2⟩
 replace hvl:p.vars.length<=12:=by omega
 have z12:decide ((12:Int)<(p.vars.length:Int))=false:=decide_eq_false (by omega)
 have hq:=q_range hring
 go_wp2_with (first|(go_at_call 61;refine HV.mono ?_;rintro e w1 ⟨rfl,hb1⟩;have P1:PBox w1 kp p Va Ab vc cb:=below_blk hb1 P0 hkl;obtain⟨p0,p1,p2,p3⟩:=P1.cells;have hb2:=hb0.trans (lower_below hb1 hb0.size)))
 clear P0 hb0 hb1 hkl HV
 have R1:Hid (PBox w1 kp p Va Ab vc cb/\Below w.heap.size w w1):=Lib.hid ⟨P1,hb2⟩
 clear p0 p1 p2 p3 P1 hb2
 go_loopg [4,5,23] (p.vars.length+1) (fun gk v4 v5 v23 w'=>∃ i:Nat,v23= .int .i64 i/\i+gk=p.vars.length+1/\i<=p.vars.length/\Hid (∀ k,∀ (h:k<p.vars.length),k<i->Al.kindOk p.vars[k])/\Hid (PBox w' kp p Va Ab vc cb/\Below w.heap.size w w'))
 case atStart=>exact⟨0,rfl,by omega,by omega,Lib.hid fun k h hk=>by omega,R1⟩
 case round=>
  obtain⟨i,rfl,hg,hi2,HK,HR⟩:=hrel
  have hK:=show ∀ k,∀ (h:k<p.vars.length),k<i->Al.kindOk p.vars[k] from HK
  obtain⟨P1,hb2⟩:=show _/\_ from HR
  clear HR R1 HK
  obtain⟨p0,p1,p2,p3⟩:=P1.cells
  by_cases hil:i<p.vars.length
  ·obtain⟨k1,rfl⟩:∃ k1,gk=k1+1:=⟨gk - 1,by omega⟩
   obtain⟨ad,hVa,d0,d1⟩:=at_T901 hp.v (i:Int) (by omega) (by omega)
   replace d0:=cell_since hb2 d0
   replace d1:=cell_since hb2 d1
   simp only [Int.toNat_natCast] at d0 d1
   rw [rd_var _ i hil] at d0 d1
   have HK2:Al.kindOk p.vars[i]->Hid (∀ k,∀ (h:k<p.vars.length),k<i+1->Al.kindOk p.vars[k]):=fun hh=>Lib.hid fun k h hk=>by
    by_cases e:k=i
    ·subst e;exact hh
    ·exact hK k h (by omega)
   have hbad:¬Al.kindOk p.vars[i]->R= .at_ 101 i:=fun hh=>(show R=_ from hR).trans (Al.validF_kind hring hvl i hil hK hh)
   obtain⟨x,hx⟩:∃ x,x=p.vars[i]:=⟨_,rfl⟩
   rw [<-hx] at d0 d1 HK2 hbad
   replace hx:=Lib.hid hx
   have r0:(0:Int)<=(i:Int):=by omega
   have r1:(i:Int)<(p.vars.length:Int):=by omega
   have r2:decide ((i:Int)<(p.vars.length:Int))=true:=decide_eq_true r1
   have U2:=fun (o:Obj)=>Lib.hid (show PBox (wr.alloc o) kp p Va Ab vc cb/\Below w.heap.size w (wr.alloc o) from⟨alloc_blk _ P1,hb2.alloc hb2.size _⟩)
   have g0:=fun o=>(S.below (hb2.alloc hb2.size o)).cell 0 (by decide)
   unfold sv at g0
   subst hVa
   clear P1 hK
   by_cases hx1:x.kind<1
   ·have r3:decide (x.kind<1)=true:=decide_eq_true hx1
    have hRv:=Lib.hid (hbad (by unfold Al.kindOk;omega))
    clear hbad HK2 hx1
    go_wp2_with fail
    refine bodyPost_ret (v:= .iface 125 (.pointer (some ⟨wr.heap.size+1,0,none⟩))) (by simp [results,Tryz.results70,go_sem]) rfl ⟨_,rfl,placedAt (g:=0) (by decide) (show R=_ from hRv) (alloc_at _ _ _),(hb2.alloc hb2.size _).alloc (by have:=hb2.size;simp;omega) _⟩
   have r3:decide (x.kind<1)=false:=decide_eq_false hx1
   by_cases hx3:3<x.kind
   ·have r4:decide (3<x.kind)=true:=decide_eq_true hx3
    have hRv:=Lib.hid (hbad (by unfold Al.kindOk;omega))
    clear hbad HK2 hx1 hx3
    go_wp2_with fail
    refine bodyPost_ret (v:= .iface 125 (.pointer (some ⟨wr.heap.size+1,0,none⟩))) (by simp [results,Tryz.results70,go_sem]) rfl ⟨_,rfl,placedAt (g:=0) (by decide) (show R=_ from hRv) (alloc_at _ _ _),(hb2.alloc hb2.size _).alloc (by have:=hb2.size;simp;omega) _⟩
   have r4:decide (3<x.kind)=false:=decide_eq_false hx3
   have HK3:=HK2 (by unfold Al.kindOk;omega)
   clear hbad HK2 hx1 hx3 hb2 g0
   go_wp2_with fail
   go_roundg k1
   case measure=>omega
   case rel=>exact⟨i+1,by simp,by omega,by omega,HK3,U2 _⟩
  ·have hie:i=p.vars.length:=by omega
   have t1:decide ((i:Int)<(p.vars.length:Int))=false:=by simp;omega
   have hKa:∀ k,∀ (h:k<p.vars.length),Al.kindOk p.vars[k]:=fun k h=>hK k h (by omega)
   obtain⟨W2,hW2⟩:∃ W2,W2=(wr.alloc (.cells #[.int .i64 0] 3)).alloc (.cells #[.bool false] 4):=⟨_,rfl⟩
   obtain⟨kn,hkn⟩:∃ kn,kn=wr.heap.size:=⟨_,rfl⟩
   obtain⟨km,hkm⟩:∃ km,km=kn+1:=⟨_,rfl⟩
   have hwr:w.heap.size<=wr.heap.size:=hb2.size
   have hB2:Below w.heap.size w W2:=by rw [hW2];exact (hb2.alloc hwr _).alloc (by simp;omega) _
   have P2:PBox W2 kp p Va Ab vc cb:=by rw [hW2];exact alloc_blk _ (alloc_blk _ P1)
   have hs2:W2.heap.size=wr.heap.size+2:=by rw [hW2];simp
   have hi0:CountI w (km+1) kn km 0 W2:=⟨hB2,by omega,by rw [hW2,hkn];exact alloc_blk _ (heap_alloc_new wr _),by rw [hW2,hkm,hkn];exact alloc_at _ _ _⟩
   have HE:=eachx_top (N:=100) (by omega) Tryz.func105 (by kernel_rfl) rfl (fun j s d _ h=>by have:=of_decide_eq_false h;omega) (fun j w' h=>h.below) (fun j w1 h k hk=>by rcases hk with rfl|rfl;exact blk_lt h.n;exact blk_lt h.m) (fun j w1 w2 h hb k hk=>hk) (fun j w1 w2 h hb=>h.step (by have:=h.below.size;omega) hb) (count_visitx w (n0:=km+1) (kn:=kn) (km:=km) (Nat.le_refl _) (by omega) (by omega) (by omega)) p.body Ab cb W2 hp.b hp.cap (fun _ _ _=>trivial) hfl hi0
   have v3:∀ o1 o2,((wr.alloc o1).alloc o2).cell? ⟨kp,3,none⟩=some (.slice Ab p.body.length cb):=fun o1 o2=>alloc_cell _ (alloc_cell _ p3)
   clear hi0
   replace hs2:=Lib.hid hs2
   have hkpn:kp≠kn:=by have:=blk_lt P1;omega
   have hkpm:kp≠km:=by have:=blk_lt P1;omega
   replace hKa:=Lib.hid hKa
   cases hst:Al.stopAt (fun _ d=>decide (6<d)) (Al.flatDL p.body 0) 0 with
   |some r=>
    have hRv:=Lib.hid ((show R=_ from hR).trans (Al.validF_deep hring hvl hKa (Al.stop_deep_no _ hst)))
    rw [hst] at HE
    clear hst
    go_wp2_with fail
    rw [<-hW2]
    simp only [<-hkn,<-hkm]
    refine HE.mono ?_
    rintro e w3 ⟨rfl,hI3,hC3⟩
    have m3:w3.cell? ⟨km,0,none⟩=some (.bool true):=(cell_blk hI3.m _).trans rfl
    have g1:=(S.below hI3.below).cell 1 (by decide)
    unfold sv at g1
    clear HE v3 hW2 hkn hkm
    go_wp2_with fail
    exact bodyPost_ret (v:= .iface 205 (.pointer (some (A 1)))) (by simp [results,Tryz.results70,go_sem]) rfl ⟨_,rfl,bareAt (g:=1) (by decide) (show R=_ from hRv),hI3.below⟩
   |none=>
   have hdep:=Al.stop_deep _ hst
   rw [hst] at HE
   clear hst
   have hRv:=Lib.hid ((show R=_ from hR).trans (Al.validF_one hring hvl hKa hfl hdep))
   go_wp2_with fail
   rw [<-hW2]
   simp only [<-hkn,<-hkm]
   refine HE.mono ?_
   rintro e w3 ⟨rfl,hI3,hC3⟩
   have hI3:CountI w (km+1) kn km (Al.flatL p.body).length w3:=hI3
   obtain⟨P3,_⟩:=hC3.blk P2 (by rintro (h|h);exact hkpn h;exact hkpm h)
   have P3:PBox w3 kp p Va Ab vc cb:=P3
   have m3:w3.cell? ⟨km,0,none⟩=some (.bool false):=(cell_blk hI3.m _).trans rfl
   have n3:∀ o,(w3.alloc o).cell? ⟨kn,0,none⟩=some (.int .i64 ((Al.flatL p.body).length:Nat)):=fun o=>alloc_cell o ((cell_blk hI3.n _).trans rfl)
   have f3:∀ o,(w3.alloc o).frozen? ⟨kn,0,none⟩=false:=fun o=>frozen_blk (alloc_blk o hI3.n) 0
   have p3':∀ o,(w3.alloc o).cell? ⟨kp,3,none⟩=some (.slice Ab p.body.length cb):=fun o=>alloc_cell o P3.cells.2.2.2
   have hs3:km+1<=w3.heap.size:=hI3.size
   obtain⟨ke,hke⟩:∃ ke,ke=w3.heap.size:=⟨_,rfl⟩
   have hkne:kn≠ke:=by omega
   obtain⟨W4,hW4⟩:∃ W4,W4=(w3.alloc (.cells #[Value.nilIface] 44)).setCell ⟨kn,0,none⟩ (.int .i64 0):=⟨_,rfl⟩
   have hwn:w.heap.size<=kn:=by omega
   have hi4:ErrI w (ke+1) kp kn ke p.q p.n p.vars.length Va vc (.slice Ab p.body.length cb) 0 W4:=by
    rw [hW4]
    refine⟨below_set (hI3.below.alloc hI3.below.size _) hwn,?_,?_,?_,?_⟩
    ·rw [set_size];simp;omega
    ·exact (set_blk_ne _ _ hkpn).trans (alloc_blk _ P3)
    ·exact set_blk (alloc_blk _ hI3.n) 0 _
    ·rw [hke];exact (set_blk_ne _ _ (by omega)).trans (heap_alloc_new w3 _)
   have HE2:=eachx_top (N:=100) (by omega) Tryz.func106 (by kernel_rfl) rfl (fun j s d h _=>h) (fun j w' h=>h.below) (fun j w1 h k hk=>by rcases hk with rfl|rfl;exact blk_lt h.n;exact blk_lt h.e) (fun j w1 w2 h hb k hk=>hk) (fun j w1 w2 h hb=>h.step (by have:=h.below.size;omega) hb) (err_visitx S (n0:=ke+1) (kp:=kp) (kn:=kn) (ke:=ke) (xb:= .slice Ab p.body.length cb) (n:=p.n) (vc:=vc) hp.v hvl hq (Nat.le_refl _) hwn (by omega) hkne (Ne.symm hkpn)) p.body Ab cb W4 hp.b hp.cap (fun k x hx=>by have:=Al.flatDL_deep p.body 0 x (List.mem_of_getElem? hx);omega) hfl hi4
   have hfF:=Al.firstF_stop (Al.oneF p.q p.vars) (Al.flatDL p.body 0) 0
   rw [Al.flatDL_map] at hfF
   clear hi4 HE hs2 P2 hB2 hC3 P1 v3 hW2 hkn hkm
   replace hke:=Lib.hid hke
   obtain⟨r,hr⟩:∃ r,r=Al.stopAt (fun s _=>Al.oneF p.q p.vars s !=0) (Al.flatDL p.body 0) 0:=⟨_,rfl⟩
   rw [<-hr] at HE2 hfF
   rcases r with _|⟨i5,s5⟩
   ·replace hr:=Lib.hid hr
    replace hfF:=Lib.hid hfF
    go_wp2_with fail
    have hke':ke=w3.heap.size:=hke
    rw [<-hke',<-hW4]
    refine HE2.mono ?_
    rintro e w5 ⟨rfl,hI5,hC5⟩
    have e5:w5.cell? ⟨ke,0,none⟩=some Value.nilIface:=(cell_blk hI5.e _).trans rfl
    clear HE2 hW4 hke' hke
    go_wp2_with fail
    exact bodyPost_ret (v:=Value.nilIface) (by simp [results,Tryz.results70,go_sem]) rfl ⟨_,rfl,.inl ⟨(show R=_ from hRv).trans (show _=_ from hfF),rfl⟩,hI5.below⟩
   ·obtain⟨d5,_,hb5,_⟩:=Al.stopAt_some hr.symm
    obtain⟨g,hg14,hgn,hgv⟩:=eV_sv (A:=A) (show Al.oneF p.q p.vars s5≠0 by simpa using hb5)
    dsimp only at hfF
    rw [hgn] at hfF
    clear hb5
    replace hr:=Lib.hid hr
    replace hfF:=Lib.hid hfF
    replace hgn:=Lib.hid hgn
    go_wp2_with fail
    have hke':ke=w3.heap.size:=hke
    rw [<-hke',<-hW4]
    refine HE2.mono ?_
    rintro e w5 ⟨rfl,hI5,hC5⟩
    obtain⟨k5,hk5,hv5⟩:=hI5.e
    rw [hgv] at hv5
    have e5:w5.cell? ⟨ke,0,none⟩=some (.iface 125 (.pointer (some ⟨k5,0,none⟩))):=(cell_blk hk5 _).trans rfl
    clear HE2 hW4 hke' hke
    go_wp2_with fail
    exact bodyPost_ret (v:= .iface 125 (.pointer (some ⟨k5,0,none⟩))) (by simp [results,Tryz.results70,go_sem]) rfl ⟨_,rfl,placedAt hg14 ((show R=_ from hRv).trans (show _=_ from hfF)) hv5,hI5.below⟩
end Go.Proofs.YtkplfaionpplaaaGreatDoor
