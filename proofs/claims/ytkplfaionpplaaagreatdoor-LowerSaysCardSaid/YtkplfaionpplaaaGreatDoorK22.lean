/- Part 22: B106, P45, B107. -/
import Derived.Test.YtkplfaionpplaaaGreatDoorK21
set_option maxRecDepth 100000
set_option maxHeartbeats 6400000
set_option linter.unusedVariables false
set_option linter.unusedSimpArgs false
namespace Go.Proofs.YtkplfaionpplaaaGreatDoor
open Go.RowKit Go.Proofs.YtkplfaionpplaaaGreatDoorW.PrintWords Go.Proofs.YtkplfaionpplaaaGreatDoorW.PrintLast
structure AllX (W0:World)(n0 kp ko kn:Nat)(p:Al.Prog)(Va Ab:Option Addr)(vc cb:Nat)(l:List Al.Stmt)(j:Nat)(w:World):Prop where
 below:Below W0.heap.size W0 w
 size:n0<=w.heap.size
 pb:PBox w kp p Va Ab vc cb
 o:∃ v,w.heap[ko]?=some (.cells #[v] 86 (0,0))/\w.ownsRow n0 3 1 v (Al.brokeL p.vars (l.take j) 0).length (intsV (Al.brokeL p.vars (l.take j) 0))
 n:w.heap[kn]?=some (.cells #[.int .i64 j] 3 (0,0))
def footA (kn ko:Nat)(w:World)(k:Nat):Prop:=k=kn\/k=ko\/∃ v,w.cell? ⟨ko,0,none⟩=some v/\v.ownBlock=some k
section
variable {W0 w w':World} {n0 kp ko kn:Nat} {p:Al.Prog} {Va Ab:Option Addr} {vc cb:Nat} {l:List Al.Stmt} {j:Nat}
theorem AllX.step (h:AllX W0 n0 kp ko kn p Va Ab vc cb l j w)(hb:Below w.heap.size w w'):AllX W0 n0 kp ko kn p Va Ab vc cb l j w':=by
 obtain⟨v,h1,h2⟩:=h.o
 exact⟨h.below.trans (lower_below hb h.below.size),Nat.le_trans h.size hb.size,below_blk hb h.pb (blk_lt h.pb),⟨v,below_blk hb h1 (blk_lt h1),own_of h2 fun k hk=>hb.block k (h2.lt k hk).2⟩,below_blk hb h.n (blk_lt h.n)⟩
theorem AllX.foot (h:AllX W0 n0 kp ko kn p Va Ab vc cb l j w):∀ k,footA kn ko w k->k<w.heap.size:=by
 obtain⟨v,h1,h2⟩:=h.o
 rintro k (rfl|rfl|⟨u,hu,hk⟩)
 ·exact blk_lt h.n
 ·exact blk_lt h1
 ·have:w.cell? ⟨ko,0,none⟩=some v:=(cell_blk h1 _).trans rfl
  rw [this] at hu;cases hu
  exact (h2.lt k hk).2
theorem AllX.same (h:AllX W0 n0 kp ko kn p Va Ab vc cb l j w)(hb:Below w.heap.size w w'):∀ k,footA kn ko w' k->footA kn ko w k:=by
 obtain⟨v,h1,h2⟩:=h.o
 rintro k (rfl|rfl|⟨u,hu,hk⟩)
 ·exact .inl rfl
 ·exact .inr (.inl rfl)
 ·have e:w.cell? ⟨ko,0,none⟩=some v:=(cell_blk h1 _).trans rfl
  rw [cell_since hb e] at hu;cases hu
  exact .inr (.inr ⟨v,e,hk⟩)
end
theorem all_grow {W0 w1 w2:World}{n0 kp ko kn:Nat}{p:Al.Prog}{Va Ab:Option Addr}{vc cb:Nat}{l:List Al.Stmt}{j:Nat}{v:Value}{o:Obj}(h:AllX W0 n0 kp ko kn p Va Ab vc cb l j w1)(h1:w1.heap[ko]?=some (.cells #[v] 86 (0,0)))(hg:(w1.alloc o).grownBy w2 v.ownBlock)(hr:∀ k,v.ownBlock=some k->n0<=k)(hkn:kn<n0)(hko:ko<n0)(hkp:kp<n0):
  w2.heap[ko]?=some (.cells #[v] 86 (0,0))/\w2.heap[kn]?=some (.cells #[.int .i64 j] 3 (0,0))/\PBox w2 kp p Va Ab vc cb/\Chg w1 w2 (footA kn ko w1) (fun k=>footA kn ko w1 k\/w1.heap.size<=k):=by
 have hv:w1.cell? ⟨ko,0,none⟩=some v:=(cell_blk h1 _).trans rfl
 refine⟨grow_blk hg (alloc_blk _ h1) (fun e=>by have:=hr _ e;omega),grow_blk hg (alloc_blk _ h.n) (fun e=>by have:=hr _ e;omega),grow_blk hg (show (w1.alloc o).heap[kp]?=_ from alloc_blk _ h.pb) (fun e=>by have:=hr _ e;omega),hg.os,hg.tape,hg.output,?_,fun k hk hn=>?_,fun k hk=>hk⟩
 ·have:=hg.size;simp at this;omega
 ·rw [hg.block k (by simp;omega) (fun e=>hn (.inr (.inr ⟨v,hv,e.symm⟩))),heap_alloc_old _ _ hk]
theorem all_visitx {W0:World}{n0 kp ko kn N:Nat}{p:Al.Prog}{Va Ab:Option Addr}{vc cb:Nat}(hp:PLies W0 p Va Ab vc cb)(l:List Al.Stmt)(hN:N<=100)(hl:l.length<=100)(hkn:W0.heap.size<=kn)(hko:W0.heap.size<=ko)(hn0:W0.heap.size<=n0)(hkn0:kn<n0)(hko0:ko<n0)(hkp0:kp<n0)(hno:kn≠ko)(hnp:kn≠kp)(hop:ko≠kp):
  VisitX W0 108 [.pointer (some ⟨kp,0,none⟩),.pointer (some ⟨ko,0,none⟩),.pointer (some ⟨kn,0,none⟩)] N (fun j s d=>d<=6/\l[j]?=some s/\Al.oneF p.q p.vars s=0) (fun _ _=>false) (AllX W0 n0 kp ko kn p Va Ab vc cb l) (fun _ _ _=>True) (footA kn ko):=by
 intro j w s A6 A7 c6 c7 deep hP hd hj g6 g7 hI
 obtain⟨hP0,hlj,hone⟩:=hP
 obtain⟨hjl,hls⟩:=List.getElem?_eq_some_iff.1 hlj
 have hsn:=Al.brokeL_snoc p.vars l j hjl
 rw [hls] at hsn
 have hbl:(Al.brokeL p.vars (l.take j) 0).length<=100:=by have:=Al.brokeL_len p.vars (l.take j) 0;have:=List.length_take_le j l;omega
 obtain⟨g,hg,hrange,hnum,hkind⟩:=Al.oneF_parts hone
 obtain⟨x6,hx6⟩:∃ x6,x6=Value.slice A6 s.body.length c6:=⟨_,rfl⟩
 obtain⟨x7,hx7⟩:∃ x7,x7=Value.slice A7 s.els.length c7:=⟨_,rfl⟩
 rw [<-hx6,<-hx7]
 clear hx6 hx7 hlj hls
 have hsz:W0.heap.size<=w.heap.size:=hI.below.size
 have hb0:Below w.heap.size w (w.alloc (.cells (stmtV s x6 x7) 66)):=(Below.refl _ _).alloc (Nat.le_refl _) _
 have hI1:=hI.step hb0
 have HB:=breaks_x (hp.below hI1.below) s x6 x7 hg (fun v hv=>hrange v (by simp [hv])) (fun h=>hrange s.d (by simp [h]))
 have hC1:Chg w (w.alloc (.cells (stmtV s x6 x7) 66)) (footA kn ko w) (footA kn ko (w.alloc (.cells (stmtV s x6 x7) 66))):=(Chg.of_below (footA kn ko w) hb0).mono (hI.same hb0)
 have p1:∀ o,PBox (w.alloc o) kp p Va Ab vc cb:=fun o=>alloc_blk o hI.pb
 have q0:=fun o=>(p1 o).cells.1
 have q1:=fun o=>(p1 o).cells.2.1
 have q2:=fun o=>(p1 o).cells.2.2.1
 have q3:=fun o=>(p1 o).cells.2.2.2
 unfold stmtV at HB hI1 hC1 hb0
 unfold progV at HB
 have hcast:((j+1:Nat):Int)=(j:Int)+1:=by simp
 dsimp only
 rw [show (!false)=true from rfl,if_neg (by decide)]
 replace hcast:=Lib.hid hcast
 cases hbk:Al.breaksB p.vars s with
 |false=>
  rw [hbk] at HB hsn
  rw [if_neg (by decide),List.append_nil] at hsn
  clear hbk
  replace hsn:=Lib.hid hsn
  go_enter Tryz.func108,Tryz.ntmps108
  unfold stmtV
  go_wp2_with (first|(go_at_call 109;refine HB.mono ?_;rintro e w1 ⟨rfl,hb1⟩;have hI2:=hI1.step hb1;have n2:w1.cell? ⟨kn,0,none⟩=some (.int .i64 j):=(cell_blk hI2.n _).trans rfl;have f2:=frozen_blk hI2.n 0))
  obtain⟨v,h1,h2⟩:=hI2.o
  have h3:Below w1.heap.size w1 w1:=Below.refl _ _
  have hknr:∀ k,v.ownBlock=some k->k≠kn:=fun k hk e=>by have:=(h2.lt k hk).1;omega
  refine bodyPost_ret (v:= .bool true) (by simp [results,Tryz.results108,go_sem]) rfl ⟨rfl,⟨below_set hI2.below hkn,by rw [set_size];exact hI2.size,(set_blk_ne _ _ (Ne.symm hnp)).trans hI2.pb,⟨v,(set_blk_ne _ _ (Ne.symm hno)).trans h1,?_⟩,?_⟩,?_⟩
  ·rw [show Al.brokeL p.vars (l.take (j+1)) 0=_ from hsn]
   exact own_of h2 fun k hk=>set_blk_ne _ _ (hknr k hk)
  ·rw [show ((j+1:Nat):Int)=(j:Int)+1 from hcast];exact set_blk hI2.n 0 _
  ·refine (hC1.trans ((Chg.of_below _ hb1).mono (hI1.same hb1))).trans ((chg_set (.inl rfl)).mono ?_)
   rintro k (rfl|rfl|⟨u,hu,hk⟩)
   ·exact .inl rfl
   ·exact .inr (.inl rfl)
   ·exact .inr (.inr ⟨u,by rwa [World.cell?_setCell_far _ _ _ _ hno] at hu,hk⟩)
 |true=>
  rw [hbk] at HB hsn
  rw [if_pos rfl] at hsn
  clear hbk
  replace hsn:=Lib.hid hsn
  obtain⟨i0,hi0,iz0,iz1,iz2⟩:=info_parts Tryz.infoInt
  go_enter Tryz.func108,Tryz.ntmps108
  unfold stmtV
  have hL1:(Al.brokeL p.vars (l.take j) 0).length<=100:=hbl
  obtain⟨L,hL⟩:∃ L,L=Al.brokeL p.vars (l.take j) 0:=⟨_,rfl⟩
  have hLo:∀ w',AllX W0 n0 kp ko kn p Va Ab vc cb l j w'->∃ v,w'.heap[ko]?=some (.cells #[v] 86 (0,0))/\w'.ownsRow n0 3 1 v L.length (intsV L):=fun w' h=>by rw [hL];exact h.o
  have hsn':Al.brokeL p.vars (l.take (j+1)) 0=L++[(j:Int)]:=by rw [hL];exact hsn
  rw [<-hL] at hbl
  clear hsn hL1
  replace hL:=Lib.hid hL
  replace hsn':=Lib.hid hsn'
  go_wp2_with (first
   |(go_at_call 109;refine HB.mono ?_;rintro e w1 ⟨rfl,hb1⟩;have hI2:=hI1.step hb1;obtain⟨v,h1,h2⟩:=hLo _ hI2;obtain⟨av,lv,rfl⟩:=own_slice h2;have o_1:w1.cell? ⟨ko,0,none⟩=some (.slice av L.length lv):=(cell_blk h1 _).trans rfl;have n_1:w1.cell? ⟨kn,0,none⟩=some (.int .i64 j):=(cell_blk hI2.n _).trans rfl;have ownA:=h2.alloc (.cells #[.int .i64 j] 3);have hr1:∀ k,(Value.slice av L.length lv).ownBlock=some k->n0<=k:=fun k hk=>(h2.lt k hk).1)
   |(at_builtin;refine wpList_append_own_at _ rfl (.tmp 11) (.tmp 13) 86 rfl n0 3 i0 _ 1 8 Tryz.underlying86 hi0 iz0 iz1 iz2 rfl (by omega) _ _ _ rfl ownA ⟨w1.heap.size,0,none⟩ 1 1 [.int .i64 j] rfl rfl (cell_one_new _ _ _) (by simp [Value.oneCell']) (by unfold maxLen;omega) (by omega) (by have:=hI2.size;simp;omega) ?_;intro v1 w2 hown1 hgrow1 hnil1 hat1;obtain⟨a1,c1,rfl⟩:=own_slice hown1;obtain⟨b_o,b_n,b_p,hch⟩:=all_grow hI2 h1 hgrow1 hr1 hkn0 hko0 hkp0;have o_2:w2.cell? ⟨ko,0,none⟩=some (.slice av L.length lv):=(cell_blk b_o _).trans rfl;have n_2:w2.cell? ⟨kn,0,none⟩=some (.int .i64 j):=(cell_blk b_n _).trans rfl;have f_2:=frozen_blk b_o 0;have g_2:=frozen_blk b_n 0))
  have hkn2:=blk_lt b_n
  have hko2:=blk_lt b_o
  have hs2:n0<=w2.heap.size:=by have:=hch.size;have:=hI2.size;omega
  have hb2:Below W0.heap.size W0 w2:=⟨hch.os.trans hI2.below.os,hch.tape.trans hI2.below.tape,hch.output.trans hI2.below.output,Nat.le_trans hI2.below.size hch.size,fun k hk=>(hch.keep k (Nat.lt_of_lt_of_le hk hI2.below.size) (by rintro (rfl|rfl|⟨u,hu,hk2⟩);omega;omega;rw [o_1] at hu;cases hu;have:=hr1 _ hk2;omega)).trans (hI2.below.block k hk)⟩
  refine bodyPost_ret (v:= .bool true) (by simp [results,Tryz.results108,go_sem]) rfl ⟨rfl,⟨below_set (below_set hb2 hko) hkn,by rw [set_size,set_size];exact hs2,(set_blk_ne _ _ (Ne.symm hnp)).trans ((set_blk_ne _ _ (Ne.symm hop)).trans b_p),⟨_,(set_blk_ne _ _ (Ne.symm hno)).trans (set_blk b_o 0 _),?_⟩,?_⟩,?_⟩
  ·rw [show Al.brokeL p.vars (l.take (j+1)) 0=_ from hsn']
   have e:intsV (L++[(j:Int)])=intsV L++[.int .i64 j]:=by simp [intsV]
   rw [e,List.length_append]
   exact own_of hown1 fun k hk=>by
    have:=(hown1.lt k hk).1
    exact (set_blk_ne _ _ (by omega)).trans (set_blk_ne _ _ (by omega))
  ·rw [show ((j+1:Nat):Int)=(j:Int)+1 from hcast];exact set_blk ((set_blk_ne _ _ hno).trans b_n) 0 _
  ·refine (hC1.trans ((Chg.of_below _ hb1).mono (hI1.same hb1))).trans (hch.trans (((chg_set (F:=fun k=>footA kn ko w1 k\/w1.heap.size<=k) (.inl (.inr (.inl rfl)))).trans (chg_set (.inl (.inl rfl)))).mono ?_))
   rintro k (rfl|rfl|⟨u,hu,hk⟩)
   ·exact .inl (.inl rfl)
   ·exact .inl (.inr (.inl rfl))
   ·rw [World.cell?_setCell_far _ _ _ _ hno] at hu
    have e:(w2.setCell ⟨ko,0,none⟩ (.slice a1 (L.length+1) c1)).cell? ⟨ko,0,none⟩=some (.slice a1 (L.length+1) c1):=(cell_blk (set_blk b_o 0 _) _).trans rfl
    rw [e] at hu;cases hu
    rcases hat1 with h|h
    ·exact .inl (.inr (.inr ⟨_,o_1,h ▸ hk⟩))
    ·rw [h] at hk;cases hk;exact .inr (by simp)
end Go.Proofs.YtkplfaionpplaaaGreatDoor
namespace Go.Proofs.YtkplfaionpplaaaGreatDoor.Al
theorem validF_parts {p:Prog}(h:(validF p).code=0):ringOk p.q p.n=true/\p.vars.length<=12/\(flatL p.body).length<=100/\depthL p.body<=6/\∀ s∈flatL p.body,oneF p.q p.vars s=0:=by
 unfold validF at h
 by_cases h1:ringOk p.q p.n=true
 ·rw [if_neg (by rw [h1];simp)] at h
  by_cases h2:p.vars.length > 12
  ·rw [if_pos h2] at h;simp [Fault.bare] at h
  rw [if_neg h2] at h
  by_cases h3:(firstK p.vars 0).code≠0
  ·rw [if_pos h3] at h;exact absurd h h3
  rw [if_neg h3] at h
  by_cases h4:(flatL p.body).length > 100\/depthL p.body > 6
  ·rw [if_pos h4] at h;simp [Fault.bare] at h
  rw [if_neg h4] at h
  exact⟨h1,by omega,by omega,by omega,firstF_fine _ 0 h⟩
 ·rw [if_pos (by simp [h1])] at h;simp [Fault.bare] at h
end Go.Proofs.YtkplfaionpplaaaGreatDoor.Al
namespace Go.Proofs.YtkplfaionpplaaaGreatDoor
open Go.RowKit Go.Proofs.YtkplfaionpplaaaGreatDoorW.PrintWords Go.Proofs.YtkplfaionpplaaaGreatDoorW.PrintLast
theorem numS_pos:∀ g,0<numS g:=fun g=>by unfold numS;split<;> decide
theorem ErrAt.nil {w:World}{A:Nat->Addr}{f:Al.Fault}{v:Value}(h:ErrAt w A f v)(hf:f.code=0):v=Value.nilIface:=by
 rcases h with⟨_,rfl⟩|⟨g,_,rfl,_⟩|⟨g,i,k,_,rfl,_⟩
 ·rfl
 ·have:=numS_pos g;have h2:numS g=0:=hf;omega
 ·have:=numS_pos g;have h2:numS g=0:=hf;omega
theorem ErrAt.held {w:World}{A:Nat->Addr}{f:Al.Fault}{v:Value}(h:ErrAt w A f v)(hf:f.code≠0):∃ t a,v= .iface t (.pointer (some a))/\(t=205\/t=125):=by
 rcases h with⟨rfl,_⟩|⟨g,_,rfl,rfl⟩|⟨g,i,k,_,rfl,rfl,_⟩
 ·exact absurd rfl hf
 ·exact⟨_,_,rfl,.inl rfl⟩
 ·exact⟨_,_,rfl,.inr rfl⟩
theorem ErrAt.fault {w:World}{A:Nat->Addr}{v:Value}{f:Al.Fault}(h:ErrAt w A f v)(hf:f.code=0):f= .fine:=by
 rcases h with⟨h,_⟩|⟨g,_,rfl,_⟩|⟨g,i,k,_,rfl,_⟩
 ·exact h
 ·have:=numS_pos g;have h2:numS g=0:=hf;omega
 ·have:=numS_pos g;have h2:numS g=0:=hf;omega
theorem own_first {w:World}{base:Nat}{a:Option Addr}{cap:Nat}{x:Int}{L:List Int}(h:w.ownsRow base 3 1 (.slice a (x :: L).length cap) (x :: L).length (intsV (x :: L))):∃ g,a=some ⟨g,0,none⟩/\w.cell? ⟨g,0,none⟩=some (.int .i64 x):=by
 rcases own_ints h with⟨h,h0⟩|⟨g,c,cur,h,h1,h2⟩
 ·cases h0
 ·simp only [Value.slice.injEq,true_and] at h
  exact⟨g,h.1,by rw [cell_blk h1,h2 0 (by simp)];rfl⟩
theorem sec_all_x {w:World}{A:Nat->Addr}(S:Sent w A){p:Al.Prog}(hvl0:p.vars.length<=1000)(hfl:(Al.flatL p.body).length<=100){Va Ab:Option Addr}{vc cb:Nat}(hp:PLies w p Va Ab vc cb)(hF:(Al.validF p).code=0):
  Calls Tryz.prog 71 #[progV p Va Ab vc cb] w fun e w'=>∃ v,e= .returned v/\w'.ownsRow w.heap.size 3 1 v (Al.brokeL p.vars (Al.flatL p.body) 0).length (intsV (Al.brokeL p.vars (Al.flatL p.body) 0))/\Below w.heap.size w w':=by
 obtain⟨hring,hvl,_,hdep,hone⟩:=Al.validF_parts hF
 obtain⟨L,hL⟩:∃ L,L=Al.brokeL p.vars (Al.flatL p.body) 0:=⟨_,rfl⟩
 rw [<-hL]
 obtain⟨W,hW⟩:∃ W,W=w.alloc (.cells #[.int .i64 p.q,.int .i64 p.n,.slice Va p.vars.length vc,.slice Ab p.body.length cb] 27):=⟨_,rfl⟩
 obtain⟨kp,hkp⟩:∃ kp,kp=w.heap.size:=⟨_,rfl⟩
 have hb0:Below w.heap.size w W:=by rw [hW];exact (Below.refl _ _).alloc (Nat.le_refl _) _
 have P0:PBox W kp p Va Ab vc cb:=by rw [hW,hkp];exact heap_alloc_new w _
 have hkl:kp<W.heap.size:=blk_lt P0
 have HV:=src_valid_x (S.below hb0) hvl0 hfl (hp.below hb0)
 unfold progV at HV
 replace hL:=Lib.hid hL
 go_enter Tryz.func71,Tryz.ntmps71
 unfold progV
 go_wp2_with fail
 rw [<-hW]
 simp only [<-hkp]
 clear hW
 have hkp':=Lib.hid hkp
 clear hkp
 go_wp2_with (first|(go_at_call 70;refine HV.mono ?_;rintro e w1 ⟨v,rfl,hE1,hb1⟩;obtain rfl:=hE1.nil hF;have P1:PBox w1 kp p Va Ab vc cb:=below_blk hb1 P0 hkl;have hb2:=hb0.trans (lower_below hb1 hb0.size);have v3:∀ o1 o2,((w1.alloc o1).alloc o2).cell? ⟨kp,3,none⟩=some (.slice Ab p.body.length cb):=fun o1 o2=>alloc_cell _ (alloc_cell _ P1.cells.2.2.2)))
 have hkpw:kp=w.heap.size:=hkp'
 have hw1:w.heap.size<=w1.heap.size:=hb2.size
 have hk1:kp<w1.heap.size:=blk_lt P1
 obtain⟨W2,hW2⟩:∃ W2,W2=(w1.alloc (.cells #[.slice none 0 0] 86)).alloc (.cells #[.int .i64 0] 3):=⟨_,rfl⟩
 obtain⟨ko,hko⟩:∃ ko,ko=w1.heap.size:=⟨_,rfl⟩
 obtain⟨kn,hkn⟩:∃ kn,kn=ko+1:=⟨_,rfl⟩
 have hi0:AllX w (kn+1) kp ko kn p Va Ab vc cb (Al.flatL p.body) 0 W2:=by
  rw [hW2,hkn,hko]
  exact⟨(hb2.alloc hw1 _).alloc (by simp;omega) _,by simp,alloc_blk _ (alloc_blk _ P1),⟨_,alloc_blk _ (heap_alloc_new w1 _),World.ownsRow_nil _ _ _ _⟩,alloc_at _ _ _⟩
 have HE:=eachx_top (N:=100) (by omega) Tryz.func108 (by kernel_rfl) rfl (fun j s d h _=>h.1) (fun j w' h=>h.below) (fun j w1 h k hk=>h.foot k hk) (fun j w1 w2 h hb k hk=>h.same hb k hk) (fun j w1 w2 h hb=>h.step hb) (all_visitx (n0:=kn+1) (kp:=kp) (ko:=ko) (kn:=kn) hp (Al.flatL p.body) (Nat.le_refl _) hfl (by omega) (by omega) (by omega) (by omega) (by omega) (by omega) (by omega) (by omega) (by omega)) p.body Ab cb W2 hp.b hp.cap (fun k x hx=>⟨by have:=Al.flatDL_deep p.body 0 x (List.mem_of_getElem? hx);omega,by rw [<-Al.flatDL_map p.body 0,List.getElem?_map,hx];rfl,hone _ (by rw [<-Al.flatDL_map p.body 0];exact List.mem_map_of_mem (List.mem_of_getElem? hx))⟩) hfl hi0
 rw [Al.stopAt_ok (fun x _=>rfl)] at HE
 have hwk:w.heap.size<=kn+1:=by omega
 rw [<-hW2]
 simp only [<-hko,<-hkn]
 clear hi0 hW2 hkpw hk1 hko hkn
 refine HE.mono ?_
 rintro e w3 ⟨rfl,hI3,hC3⟩
 have hI3:AllX w (kn+1) kp ko kn p Va Ab vc cb (Al.flatL p.body) (Al.flatL p.body).length w3:=hI3
 obtain⟨v,h1,h2⟩:=hI3.o
 rw [List.take_length,<-(show L=_ from hL)] at h2
 have h2':=own_base h2 hwk
 have o3:w3.cell? ⟨ko,0,none⟩=some v:=(cell_blk h1 _).trans rfl
 obtain⟨av,cv,rfl⟩:=own_slice h2
 clear HE v3
 go_wp2_with fail
 exact bodyPost_ret (v:= .slice av L.length cv) (by simp [results,Tryz.results71,go_sem]) rfl ⟨_,rfl,h2',hI3.below⟩
theorem sec_check_x {w:World}{A:Nat->Addr}(S:Sent w A){p:Al.Prog}(hvl0:p.vars.length<=1000)(hfl:(Al.flatL p.body).length<=100){Va Ab:Option Addr}{vc cb:Nat}(hp:PLies w p Va Ab vc cb):
  Calls Tryz.prog 36 #[progV p Va Ab vc cb] w fun e w'=>∃ v,e= .returned v/\ErrAt w' A (Al.checkF p) v/\Below w.heap.size w w':=by
 obtain⟨W,hW⟩:∃ W,W=w.alloc (.cells #[.int .i64 p.q,.int .i64 p.n,.slice Va p.vars.length vc,.slice Ab p.body.length cb] 27):=⟨_,rfl⟩
 obtain⟨kp,hkp⟩:∃ kp,kp=w.heap.size:=⟨_,rfl⟩
 have hb0:Below w.heap.size w W:=by rw [hW];exact (Below.refl _ _).alloc (Nat.le_refl _) _
 have P0:PBox W kp p Va Ab vc cb:=by rw [hW,hkp];exact heap_alloc_new w _
 have hkl:kp<W.heap.size:=blk_lt P0
 have HV:=src_valid_x (S.below hb0) hvl0 hfl (hp.below hb0)
 unfold progV at HV
 obtain⟨R,hR⟩:∃ R,R=Al.checkF p:=⟨_,rfl⟩
 rw [<-hR]
 by_cases hF:(Al.validF p).code=0
 ·have HA:=fun (w0:World) (hb:Below w.heap.size w w0)=>sec_all_x (S.below hb) hvl0 hfl (hp.below hb) hF
  unfold progV at HA
  have hL100:=Al.brokeL_len p.vars (Al.flatL p.body) 0
  have hRB:R=_:=hR.trans ((Al.checkF_secret hF).trans (Al.firstF_broke p.vars (Al.flatL p.body) 0))
  obtain⟨L,hL⟩:∃ L,L=Al.brokeL p.vars (Al.flatL p.body) 0:=⟨_,rfl⟩
  rw [<-hL] at hRB hL100
  simp only [<-hL] at HA
  clear hR
  replace hL:=Lib.hid hL
  go_enter Tryz.func36,Tryz.ntmps36
  unfold progV
  go_wp2_with fail
  rw [<-hW]
  simp only [<-hkp]
  clear hW hkp
  rcases L with _|⟨i,L⟩
  ·replace hRB:=Lib.hid hRB
   go_wp2_with (first|(go_at_call 70;refine HV.mono ?_;rintro e w1 ⟨v,rfl,hE1,hb1⟩;obtain rfl:=hE1.nil hF;have P1:PBox w1 kp p Va Ab vc cb:=below_blk hb1 P0 hkl;have hb2:=hb0.trans (lower_below hb1 hb0.size);obtain⟨p0,p1,p2,p3⟩:=P1.cells)|(go_at_call 71;refine (HA _ hb2).mono ?_;rintro e w2 ⟨v,rfl,hown,hb3⟩;obtain⟨av,cv,rfl⟩:=own_slice hown;have hb4:=hb2.trans (lower_below hb3 hb2.size)))
   exact bodyPost_ret (v:=Value.nilIface) (by simp [results,Tryz.results36,go_sem]) rfl ⟨_,rfl,.inl ⟨show R=_ from hRB,rfl⟩,hb4⟩
  ·replace hRB:=Lib.hid hRB
   have hlen:((i :: L).length:Int)=(L.length:Int)+1:=by simp
   have z1:decide ((0:Int)<((i :: L).length:Int))=true:=decide_eq_true (by omega)
   have z2:(0:Int)<((i :: L).length:Int):=by omega
   have z3:decide ((0:Int)<(L.length:Int)+1)=true:=decide_eq_true (by omega)
   have z4:(0:Int)<(L.length:Int)+1:=by omega
   replace hlen:=Lib.hid hlen
   go_wp2_with (first|(go_at_call 70;refine HV.mono ?_;rintro e w1 ⟨v,rfl,hE1,hb1⟩;obtain rfl:=hE1.nil hF;have P1:PBox w1 kp p Va Ab vc cb:=below_blk hb1 P0 hkl;have hb2:=hb0.trans (lower_below hb1 hb0.size);obtain⟨p0,p1,p2,p3⟩:=P1.cells)|(go_at_call 71;refine (HA _ hb2).mono ?_;rintro e w2 ⟨v,rfl,hown,hb3⟩;obtain⟨av,cv,rfl⟩:=own_slice hown;obtain⟨ag,rfl,hc0⟩:=own_first hown;have hb4:=hb2.trans (lower_below hb3 hb2.size);have g3:=(S.below hb4).cell 3 (by decide);unfold sv at g3))
   have hb5:=below_drew' hb4
   go_region_held3 (fun w'=>w'.cell? ⟨ag,0,none⟩=some (.int .i64 i)/\w'.cell? ⟨3,0,none⟩=some (.iface 205 (.pointer (some (A 3))))) (go_keep) (fail)
   go_wp2_with fail
   exact bodyPost_ret (v:= .iface 125 (.pointer (some ⟨w2.heap.size,0,none⟩))) (by simp [results,Tryz.results36,go_sem]) rfl ⟨_,rfl,placedAt (g:=3) (by decide) (show R=_ from hRB) (heap_alloc_new w2.drew _),hb5.alloc hb5.size _⟩
 ·have hRv:R=Al.validF p:=hR.trans (Al.checkF_valid hF)
  clear hR
  replace hRv:=Lib.hid hRv
  go_enter Tryz.func36,Tryz.ntmps36
  unfold progV
  go_wp2_with fail
  rw [<-hW]
  simp only [<-hkp]
  clear hW hkp
  go_wp2_with (first|(go_at_call 70;refine HV.mono ?_;rintro e w1 ⟨v,rfl,hE1,hb1⟩;obtain⟨t,a,rfl,ht⟩:=hE1.held hF;replace hE1:=Lib.hid hE1;have hb2:=hb0.trans (lower_below hb1 hb0.size)))
  exact bodyPost_ret (v:= .iface t (.pointer (some a))) (by simp [results,Tryz.results36,go_sem]) rfl ⟨_,rfl,by rw [show R=_ from hRv];exact hE1,hb2⟩
end Go.Proofs.YtkplfaionpplaaaGreatDoor
