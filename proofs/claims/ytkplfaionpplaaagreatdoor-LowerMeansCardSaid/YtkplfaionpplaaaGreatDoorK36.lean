/- Part 36: B89. -/
import Derived.Test.YtkplfaionpplaaaGreatDoorK35
set_option maxRecDepth 100000
set_option maxHeartbeats 6400000
set_option linter.unusedVariables false
set_option linter.unusedSimpArgs false
namespace Go.Proofs.YtkplfaionpplaaaGreatDoor
open Go.RowKit Go.Proofs.YtkplfaionpplaaaGreatDoorW.PrintLast
structure R9 (w0:World)(sp:List Al.Span)(w:World)(C:RC)(R:Al.RRes)(gk fuel:Nat)(pc:Nat)(regs mm:List Int)(lk:List Al.Leak)(vl:Value)(sn:Nat):Prop where
 h:RW w0 w C regs mm lk vl sn
 run:Al.rrun C.c sp C.mem gk pc regs mm lk sn=R
 fuel:gk+sn=fuel
 few:lk.length<=2 * sn
 pc:pc<=C.c.length
 regs:∀ x∈regs,0<=x/\x<18446744073709551616
 words:∀ x∈mm,0<=x/\x<18446744073709551616
theorem R9.drew {w0 w:World}{sp:List Al.Span}{C:RC}{R:Al.RRes}{gk fuel pc:Nat}{regs mm:List Int}{lk:List Al.Leak}{vl:Value}{sn:Nat}(h:R9 w0 sp w C R gk fuel pc regs mm lk vl sn):R9 w0 sp w.drew C R gk fuel pc regs mm lk vl sn:=⟨h.h.drew,h.run,h.fuel,h.few,h.pc,h.regs,h.words⟩
theorem spans_len:∀ L:List Al.Span,(spansV L).length=L.length * 2
 |[]=>rfl
 |i :: L=>by have:=spans_len L;simp only [spansV,List.flatMap_cons,List.length_append,List.length_cons] at this ⊢;rw [this];simp [spanCells];omega
theorem spans_at2:∀ (L:List Al.Span) (k:Nat) (hk:k<L.length) (i:Nat) (hi:i<2),(spansV L)[k * 2+i]?=(spanCells L[k])[i]?
 |[],k,hk,i,hi=>by simp at hk
 |s :: L,k,hk,i,hi=>by
  have e:spansV (s :: L)=spanCells s++spansV L:=by simp [spansV]
  have hl:(spanCells s).length=2:=rfl
  rw [e]
  cases k with
  |zero=>rw [List.getElem?_append_left (by omega)];simp
  |succ k=>
   rw [List.getElem?_append_right (by omega),show (k+1) * 2+i - (spanCells s).length=k * 2+i by omega]
   exact spans_at2 L k (by simpa using hk) i hi
theorem spans_get {w:World}{base:Nat}{a:Option Addr}{cap:Nat}{L:List Al.Span}(h:w.ownsRow base 108 2 (.slice a L.length cap) L.length (spansV L)){j:Nat}(hj:j<L.length):
  ∃ g,a=some ⟨g,0,none⟩/\w.cell? ⟨g,j * 2,none⟩=some (.int .i64 (L[j]).low)/\w.cell? ⟨g,j * 2+1,none⟩=some (.int .i64 (L[j]).high):=by
 obtain⟨g,c,hv,hgb,hgl⟩:=h.form (by omega)
 simp only [Value.slice.injEq] at hv
 have hl:=spans_len L
 obtain⟨rfl, -,rfl⟩:=hv
 have f:∀ i,i<2->w.cell? ⟨g,j * 2+i,none⟩=(spanCells L[j])[i]?:=fun i hi=>by rw [h.cellAt _ (by omega),spans_at2 L j hj i hi]
 exact⟨g,rfl,f 0 (by omega),f 1 (by omega)⟩
set_option maxHeartbeats 51200000 in
theorem run_spans {w:World}{C0:RC}{R:Al.RRes}{fuel b1 b2:Nat}{ma:Option Addr}{mc:Nat}{M:List Int}{sp:List Al.Span}{Sa:Option Addr}{sc b3:Nat}(HS:w.ownsRow b3 108 2 (.slice Sa sp.length sc) sp.length (spansV sp))(hsl:sp.length=C0.c.length)(HC:RunC w C0 R fuel b1)(hm:w.ownsRow b2 56 1 (.slice ma C0.mem mc) C0.mem (wordsV M))(hM:∀ x∈M,0<=x/\x<18446744073709551616)
  (hrun:Al.rrun C0.c sp C0.mem fuel 0 (List.replicate 25 0) M [] 0=R):
  Calls Tryz.prog 12 #[.agg #[.slice C0.ia C0.c.length C0.ic,.int .i64 24,.int .i64 C0.mem],.slice Sa sp.length sc,.slice ma C0.mem mc,.int .i64 fuel] w fun e w'=>∃ vm vl,e= .returned (.agg #[.int .i64 R.code,vm,vl,.int .i64 R.steps,.int .i64 (-1)])/\
   w'.ownsRow w.heap.size 56 1 vm C0.mem (wordsV R.mem)/\w'.ownsRow w.heap.size 103 2 vl R.leaks.length (leaksV R.leaks)/\Below w.heap.size w w':=by
 obtain⟨j0,hj0,jz0,jz1,jz2⟩:=info_parts Tryz.infoU64
 obtain⟨i0,hi0,iz0,iz1,iz2⟩:=info_parts Tryz.infoLeak
 have hMl:M.length=C0.mem:=by have:=own_one hm;simpa [wordsV] using this
 have hmem0:=HC.mem0
 have hmem:=HC.mem
 have hfu:=HC.fuel
 have HM:=Lib.hid hm
 have HMw:=Lib.hid hM
 have HRun:=Lib.hid hrun
 obtain⟨W,hW⟩:∃ W,W=(w.alloc (.cells #[.slice C0.ia C0.c.length C0.ic,.int .i64 24,.int .i64 C0.mem] 53)).alloc (.cells #[.int .i64 0,.slice none 0 0,.slice none 0 0,.int .i64 0,.int .i64 0] 51):=⟨_,rfl⟩
 have hb0:Below w.heap.size w W:=by rw [hW];exact alloc_two _ _ _
 obtain⟨kc,hkc⟩:∃ kc,kc=w.heap.size:=⟨_,rfl⟩
 have bC:W.heap[kc]?=some (.cells #[.slice C0.ia C0.c.length C0.ic,.int .i64 24,.int .i64 C0.mem] 53 (0,0)):=by rw [hW,hkc];exact alloc_blk _ (heap_alloc_new w _)
 have bX:W.heap[kc+1]?=some (.cells #[.int .i64 0,.slice none 0 0,.slice none 0 0,.int .i64 0,.int .i64 0] 51 (0,0)):=by rw [hW,hkc];exact alloc_at _ _ _
 have HWd:∀ W0:World,Below w.heap.size w W0->Calls Tryz.prog 42 #[.slice ma C0.mem mc] W0 fun e w'=>∃ v,e= .returned v/\w'.ownsRow W0.heap.size 56 1 v C0.mem (wordsV M)/\Below W0.heap.size W0 w':=by
  intro W0 hb
  rw [<-hMl]
  rw [<-hMl] at hm
  exact ref_words (own_of hm fun k hk=>hb.block k (hm.lt k hk).2) (by omega)
 clear hm hM hrun
 go_enter Tryz.func12,Tryz.ntmps12
 go_wp2_with (first
  |(go_at_call 42;rw [<-hW];refine (HWd _ hb0).mono ?_;rintro e w1 ⟨vm,rfl,hown,hb1⟩;obtain⟨gm,mcap,rfl, -, -⟩:=hown.form (by omega);have B1:=below_blk hb1 bC (blk_lt bC);have B2:=below_blk hb1 bX (blk_lt bX);have hb2:=hb0.trans (lower_below hb1 hb0.size);simp only [<-hkc];replace hkc:=Lib.hid hkc;have c1:∀ o,(w1.alloc o).cell? ⟨kc,1,none⟩=some (.int .i64 24):=fun o=>(cell_blk (alloc_blk o B1) _).trans rfl)
  |(at_make;refine wpList_make_full _ rfl _ _ 47 rfl w.heap.size 56 j0 (.int .u64 0) 1 Tryz.underlying47 hj0 jz0 jz1 .i64 .i64 _ _ 25 rfl rfl rfl rfl (by rw [jz2];omega) (by unfold maxLen;omega) (by have:=hb2.size;simp;omega) ?_;intro w2 hown2 hgrow2;rw [made_words] at hown2;obtain⟨gr,hgr⟩:∃ gr,gr=(w1.alloc (.cells #[.int .i64 0,.slice (some ⟨gm,0,none⟩) C0.mem mcap,.slice none 0 0,.int .i64 0,.int .i64 (-1)] 51)).heap.size:=⟨_,rfl⟩;rw [<-hgr] at hown2 ⊢;have hbg:=below_grown0 hgrow2))
 obtain⟨kr,hkr⟩:∃ kr,kr=w1.heap.size:=⟨_,rfl⟩
 obtain⟨kx,hkx⟩:∃ kx,kx=kc+1:=⟨_,rfl⟩
 have bR:(w1.alloc (.cells #[.int .i64 0,.slice (some ⟨gm,0,none⟩) C0.mem mcap,.slice none 0 0,.int .i64 0,.int .i64 (-1)] 51)).heap[w1.heap.size]?=some (.cells #[.int .i64 0,.slice (some ⟨gm,0,none⟩) C0.mem mcap,.slice none 0 0,.int .i64 0,.int .i64 (-1)] 51 (0,0)):=heap_alloc_new w1 _
 have l0:=blk_lt bC
 have l1:=blk_lt bX
 have l2:=hb1.size
 have l3:=(hown.lt gm rfl).2
 have l4:gr=w1.heap.size+1:=by rw [hgr];simp
 have l5:=hb0.size
 have l6:=show kc=w.heap.size from hkc
 have HW2:RW w w2 ⟨kc,kx,kr,gm,gr,C0.mem,mcap,C0.ia,C0.ic,C0.c⟩ (List.replicate 25 0) M [] (.slice none 0 0) ((0:Nat):Int):=by
  have f:∀ {base:Nat} {v:Value} {n:Nat} {xs:List Value},w1.ownsRow base 56 1 v n xs->w2.ownsRow base 56 1 v n xs:=fun ho=>own_of ho fun k hk=>by
   have:=(ho.lt k hk).2
   rw [hbg.block k (by simp;omega),heap_alloc_old _ _ (by omega)]
  refine⟨below_blk hbg (alloc_blk _ B1) (by simp;omega),?_,?_,own_base (f hown) hb0.size,hown2,World.ownsRow_nil _ _ _ _,(hb2.alloc hb2.size _).trans (lower_below hbg (by have:=hb2.size;simp;omega)),?_,?_,?_,?_,?_⟩
  ·rw [hkx];exact below_blk hbg (alloc_blk _ B2) (by simp;omega)
  ·rw [hkr];exact below_blk hbg bR (by simp)
  ·show gm≠gr;omega
  ·show kx≠kr;omega
  ·show kc≠kr;omega
  ·show w.heap.size<=kr;omega
  ·show w.heap.size<=kx;omega
 have HA:Hid (R9 w sp w2 ⟨kc,kx,kr,gm,gr,C0.mem,mcap,C0.ia,C0.ic,C0.c⟩ R fuel fuel 0 (List.replicate 25 0) M [] (.slice none 0 0) 0):=
  Lib.hid ⟨HW2,show Al.rrun C0.c sp C0.mem fuel 0 _ M [] 0=R from HRun,by omega,by simp,by simp,by intro x hx;simp at hx;omega,show ∀ x∈M,0<=x/\x<18446744073709551616 from HMw⟩
 have hgk:kr+1=gr:=by omega
 simp only [<-hkr,<-hkx,hgk]
 replace hgk:=Lib.hid hgk
 replace hkr:=Lib.hid hkr
 replace hkx:=Lib.hid hkx
 replace hgr:=Lib.hid hgr
 clear HW2 bR hown2 hbg hgrow2 hown c1 B1 B2 bC bX hb1 hb2 hb0 hW l0 l1 l2 l3 l4 l5 l6 HWd
 go_loopg [11,12,13,14,15,16,17,18,19,20,21] fuel (fun gk v11 v12 v13 v14 v15 v16 v17 v18 v19 v20 v21 w'=>∃ (pc:Nat) (regs mm:List Int) (lk:List Al.Leak) (vl:Value) (sn:Nat),v11= .int .i64 pc/\Hid (R9 w sp w' ⟨kc,kx,kr,gm,gr,C0.mem,mcap,C0.ia,C0.ic,C0.c⟩ R gk fuel pc regs mm lk vl sn))
 case atStart=>exact⟨0,_,_,_,_,0,rfl,HA⟩
 case round=>
  obtain⟨pc,regs,mm,lk,vl,sn,rfl,HR⟩:=hrel
  clear HA
  have hA:=show R9 w sp wr ⟨kc,kx,kr,gm,gr,C0.mem,mcap,C0.ia,C0.ic,C0.c⟩ R gk fuel pc regs mm lk vl sn from HR
  clear HR
  have hl:pc<C0.c.length:=Al.srrun_inside hA.run HC.rc.2
  obtain⟨k1,rfl⟩:=Al.srun_k hA.run HC.rc.2
  have hfu2:=hA.fuel
  have hfew:=hA.few
  have hq9:=HC.len
  obtain⟨gi,hia,d0,d1,d2,d3,d4,d5⟩:=insts_get HC.code hl
  replace d0:=cell_since hA.h.b d0
  replace d1:=cell_since hA.h.b d1
  replace d2:=cell_since hA.h.b d2
  replace d3:=cell_since hA.h.b d3
  replace d4:=cell_since hA.h.b d4
  replace d5:=cell_since hA.h.b d5
  obtain⟨i,hi⟩:∃ i,i=C0.c[pc]:=⟨_,rfl⟩
  rw [<-hi] at d0 d1 d2 d3 d4 d5
  have hok:=HC.ok i (by rw [hi];exact List.getElem_mem _)
  have hrg:=hok.regs
  have h0:=hA.h
  have hrun:=hA.run
  have hrw:=hA.regs
  have hww:=hA.words
  have hvl:=hA.h.lo
  clear hA
  replace hi:=Lib.hid hi
  replace hrun:=Lib.hid hrun
  replace hrw:=Lib.hid hrw
  replace hww:=Lib.hid hww
  obtain⟨c0,c1,c2,c3,c4,c5,c6,c7⟩:=h0.cells
  dsimp only at c0 c1 c2 c3 c4 c5 c6 c7
  have f3:wr.frozen? ⟨kr,3,none⟩=false:=h0.froz 3
  have t1:decide ((C0.c.length:Int)<=(pc:Int))=false:=decide_eq_false (by omega)
  have t2:decide ((fuel:Int)<=(sn:Int))=false:=decide_eq_false (by omega)
  have t3:(0:Int)<=(pc:Int):=by omega
  have t4:(pc:Int)<(C0.c.length:Int):=by omega
  have hiaH:=Lib.hid hia
  rw [hia] at c0
  clear hia
  go_upto_region 11 with (fail)
  obtain⟨kI,hkI⟩:∃ kI,kI=wr.heap.size:=⟨_,rfl⟩
  simp only [<-hkI]
  refine gen_world (Q:=fun W=>Code.wp _ _ _ _ W) _ (fun W=>RW w W ⟨kc,kx,kr,gm,gr,C0.mem,mcap,C0.ia,C0.ic,C0.c⟩ regs mm lk vl sn/\InsB W kI i) ⟨h0.alloc _,by rw [hkI];exact heap_alloc_new wr _⟩ ?_
  clear h0 c0 c1 c2 c3 c4 c5 c6 c7 f3 d0 d1 d2 d3 d4 d5 hkI
  rintro W1 ⟨h1,I1⟩
  have c6:W1.cell? ⟨kr,3,none⟩=some (.int .i64 sn):=h1.cells.2.2.2.2.2.2.1
  have f3:W1.frozen? ⟨kr,3,none⟩=false:=h1.froz 3
  go_upto_region 12 with (fail)
  refine gen_world (Q:=fun W=>Code.wp _ _ _ _ W) _ (fun W=>RW w W ⟨kc,kx,kr,gm,gr,C0.mem,mcap,C0.ia,C0.ic,C0.c⟩ regs mm lk vl ((sn:Int)+1)/\InsB W kI i) ⟨h1.step _,(set_blk_ne _ _ (h1.ins_ne I1).1).trans I1⟩ ?_
  clear c6 f3 h1 I1
  rintro W2 ⟨h2,I2⟩
  have c5:∀ o,(W2.alloc o).cell? ⟨kr,2,none⟩=some vl:=fun o=>(h2.alloc o).cells.2.2.2.2.2.1
  have c5':W2.cell? ⟨kr,2,none⟩=some vl:=h2.cells.2.2.2.2.2.1
  have own1:=(h2.alloc (.cells #[.int .i64 1,.int .i64 pc] 103)).lo
  have h2a:=h2.alloc (.cells #[.int .i64 1,.int .i64 pc] 103)
  have I2a:InsB (W2.alloc (.cells #[.int .i64 1,.int .i64 pc] 103)) kI i:=alloc_blk _ I2
  have src1:(W2.alloc (.cells #[.int .i64 1,.int .i64 pc] 103)).ownsRow w.heap.size 103 2 (.slice (some ⟨W2.heap.size,0,none⟩) 1 1) 1 [.int .i64 1,.int .i64 pc]:=
   ⟨rfl,.inr ⟨W2.heap.size,1,_,rfl,h2.b.size,heap_alloc_new _ _,by omega,by unfold maxLen;omega,rfl,rfl⟩⟩
  have hsz:=h2.b.size
  have s1:∀ u∈[Value.int .i64 1,Value.int .i64 pc],u.oneCell'=true:=by
   intro u hu
   rcases List.mem_cons.1 hu with rfl|hu
   ·rfl
   ·rw [List.mem_singleton.1 hu];rfl
  have s2:lk.length+1<=maxLen:=by unfold maxLen;omega
  have s3:(lk.length+1) * 16<=140737488355328:=by omega
  have s4:w.heap.size<=(W2.alloc (.cells #[.int .i64 1,.int .i64 pc] 103)).heap.size:=by simp;omega
  go_upto_region 13 with (first
   |(at_builtin;refine append_row rfl (.tmp 52) (.tmp 55) 49 rfl w.heap.size 103 i0 _ 2 16 Tryz.underlying49 hi0 iz0 iz1 iz2 rfl (by omega) _ _ _ rfl own1 w.heap.size _ _ _ rfl src1 s1 s2 s3 s4 ?_;intro v1 w4 hown1 hgrow1;obtain⟨h3',z2,f2⟩:=h2a.leak (l:=⟨1,(pc:Int)⟩) hown1 hgrow1;have I3':=h2a.ins_leak (v1:=v1) I2a hgrow1;obtain⟨sa1,sc1,rfl⟩:=own_slice hown1))
  refine gen_world (Q:=fun W=>Code.wp _ _ _ _ W) _ (fun W=>RW w W ⟨kc,kx,kr,gm,gr,C0.mem,mcap,C0.ia,C0.ic,C0.c⟩ regs mm (lk++[⟨1,(pc:Int)⟩]) (.slice sa1 (lk.length+1) sc1) ((sn:Int)+1)/\InsB W kI i) ⟨h3',I3'⟩ ?_
  clear c5 c5' own1 h2a I2a src1 hsz h2 I2 hown1 hgrow1 h3' I3' z2 f2
  rintro W3 ⟨h3,I3⟩
  obtain⟨i0c,i1c,i2c,i3c,i4c,i5c⟩:=I3.cells
  obtain⟨ra0,ra1,rb0,rb1,rc0,rc1,rd0,rd1⟩:=hrg
  replace ra1:i.a<25:=ra1
  replace rb1:i.b<25:=rb1
  replace rc1:i.c<25:=rc1
  replace rd1:i.d<25:=rd1
  have ca:=(h3.regAt (j:=i.a.toNat) (by omega)).1
  have cbb:=(h3.regAt (j:=i.b.toNat) (by omega)).1
  obtain⟨a,ha⟩:∃ a,a=Al.gI regs i.a:=⟨_,rfl⟩
  obtain⟨b,hb⟩:∃ b,b=Al.gI regs i.b:=⟨_,rfl⟩
  have ha':regs.getD i.a.toNat 0=a:=ha.symm
  have hb':regs.getD i.b.toNat 0=b:=hb.symm
  dsimp only at ca cbb
  rw [ha'] at ca
  rw [hb'] at cbb
  have hwa:0<=a/\a<18446744073709551616:=by rw [ha];exact Al.gI_word (show ∀ x∈regs,0<=x/\x<18446744073709551616 from hrw) _
  have hwb:0<=b/\b<18446744073709551616:=by rw [hb];exact Al.gI_word (show ∀ x∈regs,0<=x/\x<18446744073709551616 from hrw) _
  have haH:=Lib.hid ha
  have hbH:=Lib.hid hb
  clear ha hb ha' hb'
  go_upto_region 16 with (fail)
  clear ca cbb
  obtain⟨hop, -, -, -, -,hk0,hk1,hk2,hk3,hk4⟩:=hok
  have hfew2:(lk++[(⟨1,(pc:Int)⟩:Al.Leak)]).length<=2 * sn+1:=by simp;omega
  have hi':=show i=C0.c[pc] from hi
  have hrun':=show Al.rrun C0.c sp C0.mem (k1+1) pc regs mm lk sn=R from hrun
  have e1:((sn:Int)+1)=((sn+1:Nat):Int):=by omega
  have cc2:W3.cell? ⟨kc,2,none⟩=some (.int .i64 C0.mem):=h3.cells.2.2.1
  by_cases ho:i.op=15\/i.op=16
  ·obtain⟨at_,hat,hatM,hr15,hr16⟩:=Al.srun_ls hrun' HC.rc.2 hl hi' ho (by omega)
   have hkb:=hk3 ho
   have haV:=show a=Al.gI regs i.a from haH
   have wk:IntKind.u64.wrap i.k=i.k:=IntWalk.u64_in _ (by omega)
   have wat:IntKind.u64.wrap (a+i.k)=at_:=by
    rw [wrapU_is,<-hat,<-haV]
    congr 2
    unfold Al.wrapU;omega
   have wat2:IntKind.i64.wrap (at_:Int)=at_:=IntWalk.i64_in _ (by omega)
   have wm:IntKind.u64.wrap (C0.mem:Int)=C0.mem:=IntWalk.u64_in _ (by omega)
   have t5:decide ((C0.mem:Int)<=(at_:Int))=false:=decide_eq_false (by omega)
   have q0:(0:Int)<=(at_:Int):=by omega
   have c5:∀ o,(W3.alloc o).cell? ⟨kr,2,none⟩=some (.slice sa1 (lk.length+1) sc1):=fun o=>(h3.alloc o).cells.2.2.2.2.2.1
   have c5':W3.cell? ⟨kr,2,none⟩=some (.slice sa1 (lk.length+1) sc1):=h3.cells.2.2.2.2.2.1
   have h3a:=h3.alloc (.cells #[.int .i64 3,.int .i64 at_] 103)
   have I3a:InsB (W3.alloc (.cells #[.int .i64 3,.int .i64 at_] 103)) kI i:=alloc_blk _ I3
   have own1:=h3a.lo
   rw [show (lk++[(⟨1,(pc:Int)⟩:Al.Leak)]).length=lk.length+1 by simp] at own1
   have src1:(W3.alloc (.cells #[.int .i64 3,.int .i64 at_] 103)).ownsRow w.heap.size 103 2 (.slice (some ⟨W3.heap.size,0,none⟩) 1 1) 1 [.int .i64 3,.int .i64 at_]:=
    ⟨rfl,.inr ⟨W3.heap.size,1,_,rfl,h3.b.size,heap_alloc_new _ _,by omega,by unfold maxLen;omega,rfl,rfl⟩⟩
   have s1:∀ u∈[Value.int .i64 3,Value.int .i64 at_],u.oneCell'=true:=by
    intro u hu
    rcases List.mem_cons.1 hu with rfl|hu
    ·rfl
    ·rw [List.mem_singleton.1 hu];rfl
   have s2:lk.length+1+1<=maxLen:=by unfold maxLen;omega
   have s3:(lk.length+1+1) * 16<=140737488355328:=by omega
   have s4:w.heap.size<=(W3.alloc (.cells #[.int .i64 3,.int .i64 at_] 103)).heap.size:=by have:=h3.b.size;simp;omega
   have hnl:∀ {v2:Value} {w4:World},w4.ownsRow w.heap.size 103 2 v2 (lk.length+1+1) (leaksV (lk++[⟨1,(pc:Int)⟩])++[.int .i64 3,.int .i64 at_])->(w4=W3.alloc (.cells #[.int .i64 3,.int .i64 at_] 103)\/(W3.alloc (.cells #[.int .i64 3,.int .i64 at_] 103)).grownBy w4 (Value.slice sa1 (lk.length+1) sc1).ownBlock)->RW w (w4.setCell ⟨kr,2,none⟩ v2) ⟨kc,kx,kr,gm,gr,C0.mem,mcap,C0.ia,C0.ic,C0.c⟩ regs mm (lk++[⟨1,(pc:Int)⟩]++[⟨3,(at_:Int)⟩]) v2 ((sn:Int)+1)/\InsB (w4.setCell ⟨kr,2,none⟩ v2) kI i/\w4.cell? ⟨kr,2,none⟩=some (.slice sa1 (lk.length+1) sc1)/\w4.frozen? ⟨kr,2,none⟩=false:=fun {v2 w4} ho hg=>by
    have h:=h3a.leak (l:=⟨3,(at_:Int)⟩) (by rw [show (lk++[(⟨1,(pc:Int)⟩:Al.Leak)]).length=lk.length+1 by simp];exact ho) hg
    exact⟨h.1,h3a.ins_leak I3a hg,h.2.1,h.2.2⟩
   have HNL:= @hnl
   clear hnl h3a
   have hfl:(lk++[(⟨1,(pc:Int)⟩:Al.Leak)]++[(⟨3,(at_:Int)⟩:Al.Leak)]).length<=2 * (sn+1):=by simp;omega
   have hrd:=(Al.gI_word (show ∀ x∈mm,0<=x/\x<18446744073709551616 from hww) (at_:Int))
   have hbH2:=show b=Al.gI regs i.b from hbH
   rw [<-hbH2] at hr16
   rw [e1] at hr15 hr16
   have H15:=Lib.hid hr15
   have H16:=Lib.hid hr16
   have E1:=Lib.hid e1
   have HFL:=Lib.hid hfl
   have HRD:=Lib.hid hrd
   have hmem':at_<C0.mem:=by omega
   clear hk0 hk1 hk2 hk3 hk4 hop hat hr15 hr16 haV hkb e1 hfl hrd hfew2 hi' hrun' hwa hbH2
   rcases ho with p15|p16
   ·as_aux_lemma=>
     have q15':(i.op == 15)=true:=by rw [p15];rfl
     have H15':=Lib.hid ((show _->_ from H15) p15)
     clear p15 H15 H16
     go_upto_region 28 with (first
      |(at_builtin;refine append_row rfl (.tmp 151) (.tmp 155) 49 rfl w.heap.size 103 i0 _ 2 16 Tryz.underlying49 hi0 iz0 iz1 iz2 rfl (by omega) _ _ _ rfl own1 w.heap.size _ _ _ rfl src1 s1 s2 s3 s4 ?_;intro v2 w4 hown1 hgrow1;obtain⟨h4',I4',z2,f2⟩:=HNL hown1 hgrow1;obtain⟨sa2,sc2,rfl⟩:=own_slice hown1))
     refine gen_world (Q:=fun W=>Code.wp _ _ _ _ W) _ (fun W=>RW w W ⟨kc,kx,kr,gm,gr,C0.mem,mcap,C0.ia,C0.ic,C0.c⟩ regs mm (lk++[⟨1,(pc:Int)⟩]++[⟨3,(at_:Int)⟩]) (.slice sa2 (lk.length+1+1) sc2) ((sn:Int)+1)/\InsB W kI i) ⟨h4',I4'⟩ ?_
     clear c5 c5' own1 I3a src1 s1 s2 s3 s4 HNL hown1 hgrow1 h4' I4' z2 f2 h3 I3 cc2 i0c i1c i2c i3c i4c i5c wat wat2 wk
     rintro W5 ⟨h5,I5⟩
     have cc2:W5.cell? ⟨kc,2,none⟩=some (.int .i64 C0.mem):=h5.cells.2.2.1
     have c4:W5.cell? ⟨kr,1,none⟩=some (.slice (some ⟨gm,0,none⟩) C0.mem mcap):=h5.cells.2.2.2.2.1
     obtain⟨i0c,i1c, -, -, -, -⟩:=I5.cells
     have cm:=(h5.memAt (j:=at_) hmem').1
     have cd:=(h5.regAt (j:=i.d.toNat) (by omega)).1
     have fd:=(h5.regAt (j:=i.d.toNat) (by omega)).2
     dsimp only at cm cd fd
     have hgm:mm.getD at_ 0=Al.gI mm at_:=rfl
     rw [hgm] at cm
     have HN1:R9 w sp (W5.setCell ⟨gr,i.d.toNat,none⟩ (.int .u64 (Al.gI mm at_))) ⟨kc,kx,kr,gm,gr,C0.mem,mcap,C0.ia,C0.ic,C0.c⟩ R k1 fuel (pc+1) (Al.setI regs i.d (Al.gI mm at_)) mm (lk++[⟨1,(pc:Int)⟩]++[⟨3,(at_:Int)⟩]) (.slice sa2 (lk.length+1+1) sc2) (sn+1):=
      ⟨by rw [<-(show _=_ from E1)];exact h5.reg _ _,show _=R from H15',by omega,HFL,by show pc+1<=C0.c.length;omega,Al.setI_word (show ∀ x∈regs,0<=x/\x<18446744073709551616 from hrw) HRD,show ∀ x∈mm,0<=x/\x<18446744073709551616 from hww⟩
     have HN2:=Lib.hid (R9.drew HN1)
     have HN3:=Lib.hid HN1
     clear HN1 hgm h5 I5
     generalize Al.gI mm at_=xv at cm HN2 HN3
     go_wp2_with fail
     go_still_tail 9,(by kernel_rfl)
     go_wp2_with fail
     go_roundg k1
     case measure=>omega
     case rel=>first|exact⟨pc+1,_,_,_,_,_,by simp,HN2⟩|exact⟨pc+1,_,_,_,_,_,by simp,HN3⟩
   ·as_aux_lemma=>
     have q15:(i.op == 15)=false:=by rw [p16];rfl
     have q16:(i.op == 16)=true:=by rw [p16];rfl
     have H16':=Lib.hid ((show _->_ from H16) p16)
     clear p16 H15 H16
     go_upto_region 28 with (first
      |(at_builtin;refine append_row rfl (.tmp 151) (.tmp 155) 49 rfl w.heap.size 103 i0 _ 2 16 Tryz.underlying49 hi0 iz0 iz1 iz2 rfl (by omega) _ _ _ rfl own1 w.heap.size _ _ _ rfl src1 s1 s2 s3 s4 ?_;intro v2 w4 hown1 hgrow1;obtain⟨h4',I4',z2,f2⟩:=HNL hown1 hgrow1;obtain⟨sa2,sc2,rfl⟩:=own_slice hown1))
     refine gen_world (Q:=fun W=>Code.wp _ _ _ _ W) _ (fun W=>RW w W ⟨kc,kx,kr,gm,gr,C0.mem,mcap,C0.ia,C0.ic,C0.c⟩ regs mm (lk++[⟨1,(pc:Int)⟩]++[⟨3,(at_:Int)⟩]) (.slice sa2 (lk.length+1+1) sc2) ((sn:Int)+1)/\InsB W kI i) ⟨h4',I4'⟩ ?_
     clear c5 c5' own1 I3a src1 s1 s2 s3 s4 HNL hown1 hgrow1 h4' I4' z2 f2 h3 I3 cc2 i0c i1c i2c i3c i4c i5c wat wat2 wk
     rintro W5 ⟨h5,I5⟩
     have cc2:W5.cell? ⟨kc,2,none⟩=some (.int .i64 C0.mem):=h5.cells.2.2.1
     have c4:W5.cell? ⟨kr,1,none⟩=some (.slice (some ⟨gm,0,none⟩) C0.mem mcap):=h5.cells.2.2.2.2.1
     obtain⟨i0c,i1c, -, -, -, -⟩:=I5.cells
     have cm:=(h5.memAt (j:=at_) hmem').1
     have fm:=(h5.memAt (j:=at_) hmem').2
     dsimp only at cm fm
     have HN1:R9 w sp (W5.setCell ⟨gm,at_,none⟩ (.int .u64 b)) ⟨kc,kx,kr,gm,gr,C0.mem,mcap,C0.ia,C0.ic,C0.c⟩ R k1 fuel (pc+1) regs (Al.setI mm at_ b) (lk++[⟨1,(pc:Int)⟩]++[⟨3,(at_:Int)⟩]) (.slice sa2 (lk.length+1+1) sc2) (sn+1):=
      ⟨by rw [<-(show _=_ from E1)];exact h5.word _ _,show _=R from H16',by omega,HFL,by show pc+1<=C0.c.length;omega,show ∀ x∈regs,0<=x/\x<18446744073709551616 from hrw,Al.setI_word (show ∀ x∈mm,0<=x/\x<18446744073709551616 from hww) hwb⟩
     have HN3:=Lib.hid HN1
     clear HN1 h5 I5
     generalize mm.getD at_ 0=xv at cm
     go_wp2_with fail
     go_roundg k1
     case measure=>omega
     case rel=>exact⟨pc+1,_,_,_,_,_,by simp,HN3⟩
  have q15:(i.op == 15)=false:=beq_false_of_ne (by omega)
  have q16:(i.op == 16)=false:=beq_false_of_ne (by omega)
  have hlk1:(lk++[(⟨1,(pc:Int)⟩:Al.Leak)]).length<=2 * (sn+1):=by simp;omega
  have HLK:=Lib.hid hlk1
  clear hlk1
  by_cases p17:i.op=17
  ·as_aux_lemma=>
    have hr:=Al.srun_br hrun' hl hi' p17
    obtain⟨pcN,hpcN⟩:=Int.eq_ofNat_of_zero_le (hk4 (by omega)).1
    have hpl:=(hk4 (by omega)).2
    rw [hpcN,e1] at hr
    have q17:(i.op == 17)=true:=by rw [p17];rfl
    have HN1:R9 w sp W3 ⟨kc,kx,kr,gm,gr,C0.mem,mcap,C0.ia,C0.ic,C0.c⟩ R k1 fuel pcN regs mm (lk++[⟨1,(pc:Int)⟩]) (.slice sa1 (lk.length+1) sc1) (sn+1):=
     ⟨by rw [<-e1];exact h3,hr,by omega,HLK,by show pcN<=C0.c.length;omega,hrw,hww⟩
    have HN3:=Lib.hid HN1
    rw [hpcN] at i5c
    have hpcH:=Lib.hid hpcN
    clear HN1 h3 I3 hr hk0 hk1 hk2 hk3 hk4 hop hfew2 hi' hrun' hwa hwb ho p17 e1 hpcN
    go_wp2_with fail
    go_roundg k1
    case measure=>omega
    case rel=>exact⟨pcN,_,_,_,_,_,rfl,HN3⟩
  have q17:(i.op == 17)=false:=beq_false_of_ne p17
  by_cases hbz:i.op=18\/i.op=19
  ·have haV:=show a=Al.gI regs i.a from haH
   obtain⟨pcN,hpcN⟩:=Int.eq_ofNat_of_zero_le (hk4 (by omega)).1
   have hpl:=(hk4 (by omega)).2
   have O1:∀ w0:World,Calls Tryz.prog 43 #[.bool true] w0 fun e w'=>e= .returned (.int .i64 1)/\w'=w0:=fun w0=>mach_one w0 true
   have O0:∀ w0:World,Calls Tryz.prog 43 #[.bool false] w0 fun e w'=>e= .returned (.int .i64 0)/\w'=w0:=fun w0=>mach_one w0 false
   have hfl:∀ x:Int,(lk++[(⟨1,(pc:Int)⟩:Al.Leak)]++[(⟨2,x⟩:Al.Leak)]).length<=2 * (sn+1):=fun x=>by simp;omega
   have s1:∀ x:Int,∀ u∈[Value.int .i64 2,Value.int .i64 x],u.oneCell'=true:=by
    intro x u hu
    rcases List.mem_cons.1 hu with rfl|hu
    ·rfl
    ·rw [List.mem_singleton.1 hu];rfl
   have s2:lk.length+1+1<=maxLen:=by unfold maxLen;omega
   have s3:(lk.length+1+1) * 16<=140737488355328:=by omega
   have hd:=h3.drew
   have Id:InsB W3.drew kI i:=I3
   have c5x:W3.drew.cell? ⟨kr,2,none⟩=some (.slice sa1 (lk.length+1) sc1):=hd.cells.2.2.2.2.2.1
   have c5'':W3.cell? ⟨kr,2,none⟩=some (.slice sa1 (lk.length+1) sc1):=h3.cells.2.2.2.2.2.1
   have hdx:∀ x:Int,RW w (W3.alloc (.cells #[.int .i64 2,.int .i64 x] 103)).drew ⟨kc,kx,kr,gm,gr,C0.mem,mcap,C0.ia,C0.ic,C0.c⟩ regs mm (lk++[⟨1,(pc:Int)⟩]) (.slice sa1 (lk.length+1) sc1) ((sn:Int)+1):=fun x=>(h3.alloc _).drew
   have Idx:∀ x:Int,InsB (W3.alloc (.cells #[.int .i64 2,.int .i64 x] 103)).drew kI i:=fun x=>alloc_blk _ I3
   have own1:∀ x:Int,(W3.alloc (.cells #[.int .i64 2,.int .i64 x] 103)).drew.ownsRow w.heap.size 103 2 (.slice sa1 (lk.length+1) sc1) (lk.length+1) (leaksV (lk++[⟨1,(pc:Int)⟩])):=fun x=>by
    have:=(hdx x).lo
    rwa [show (lk++[(⟨1,(pc:Int)⟩:Al.Leak)]).length=lk.length+1 by simp] at this
   have s4:∀ x:Int,w.heap.size<=(W3.alloc (.cells #[.int .i64 2,.int .i64 x] 103)).drew.heap.size:=fun x=>(hdx x).b.size
   have nws:∀ x:Int,World.heap (W3.alloc (.cells #[.int .i64 2,.int .i64 x] 103)).drew=(W3.alloc (.cells #[.int .i64 2,.int .i64 x] 103)).heap:=fun x=>rfl
   have hnew:∀ x:Int,((W3.alloc (.cells #[.int .i64 2,.int .i64 x] 103)).drew).heap[W3.heap.size]?=some (.cells #[.int .i64 2,.int .i64 x] 103 (0,0)):=fun x=>heap_alloc_new W3 _
   have hszx:∀ x:Int,((W3.alloc (.cells #[.int .i64 2,.int .i64 x] 103)).drew).heap.size=W3.heap.size+1:=fun x=>by rw [nws];simp
   have HNL:∀ (x:Int) (v2:Value) (w4:World),w4.ownsRow w.heap.size 103 2 v2 (lk.length+1+1) (leaksV (lk++[⟨1,(pc:Int)⟩])++[.int .i64 2,.int .i64 x])->(w4=(W3.alloc (.cells #[.int .i64 2,.int .i64 x] 103)).drew\/((W3.alloc (.cells #[.int .i64 2,.int .i64 x] 103)).drew).grownBy w4 (Value.slice sa1 (lk.length+1) sc1).ownBlock)->RW w (w4.setCell ⟨kr,2,none⟩ v2) ⟨kc,kx,kr,gm,gr,C0.mem,mcap,C0.ia,C0.ic,C0.c⟩ regs mm (lk++[⟨1,(pc:Int)⟩]++[⟨2,x⟩]) v2 ((sn:Int)+1)/\InsB (w4.setCell ⟨kr,2,none⟩ v2) kI i/\w4.cell? ⟨kr,2,none⟩=some (.slice sa1 (lk.length+1) sc1)/\w4.frozen? ⟨kr,2,none⟩=false:=fun x v2 w4 ho hg=>by
    have h:=(hdx x).leak (l:=⟨2,x⟩) (by rw [show (lk++[(⟨1,(pc:Int)⟩:Al.Leak)]).length=lk.length+1 by simp];exact ho) hg
    exact⟨h.1,(hdx x).ins_leak (Idx x) hg,h.2.1,h.2.2⟩
   clear nws hdx Idx
   have HR:∀ goes:Bool,goes=decide (decide (a=0)=decide (i.op=18))->Al.rrun C0.c sp C0.mem k1 (if goes=true then i.k else ((pc+1:Nat):Int)) regs mm (lk++[⟨1,(pc:Int)⟩]++[⟨2,if goes=true then 1 else 0⟩]) ((sn+1:Nat):Int)=R:=fun goes hg=>by
    have:=Al.srun_bz hrun' hl hi' hbz (goes:=goes) (by rw [hg,haV])
    rwa [e1] at this
   rw [hpcN] at hpl
   have E1:=Lib.hid e1
   have HFL:=Lib.hid hfl
   have hpcL:pc+1<=C0.c.length:=by omega
   clear hk0 hk1 hk2 hk3 hk4 hop hfew2 hi' hrun' hwa hwb haV e1 hfl h3 ho p17
   have hxx:∀ g:Bool,∃ (xv:Int) (pcX:Nat),(g=true->xv=1/\pcX=pcN)/\(g=false->xv=0/\pcX=pc+1):=fun g=>⟨if g=true then 1 else 0,if g=true then pcN else pc+1,by cases g<;> simp⟩
   rcases hbz with p18|p19<;> by_cases za:a=0
   obtain⟨xv,pcX,hx⟩:=hxx true
   obtain⟨hx1,hp1⟩:=hx.1 rfl
   have qa:(a == 0)=true:=by rw [za];rfl
   have q18:(i.op == 18)=true:=by rw [p18];rfl
   have OX:∀ w0:World,Calls Tryz.prog 43 #[.bool true] w0 fun e w'=>e= .returned (.int .i64 xv)/\w'=w0:=fun w0=>by rw [hx1];exact O1 w0
   have hr:Al.rrun C0.c sp C0.mem k1 (pcX:Int) regs mm (lk++[⟨1,(pc:Int)⟩]++[⟨2,xv⟩]) ((sn+1:Nat):Int)=R:=by have h:=HR true (by rw [p18];simp [za]);rw [if_pos rfl,if_pos rfl,hpcN] at h;rw [hx1,hp1];exact h
   have HRR:=Lib.hid hr
   have HPC:=Lib.hid (show i.k=(pcX:Int) by rw [hpcN,hp1])
   have HPX:=Lib.hid (show pcX<=C0.c.length by omega)
   clear hx hx1 hp1 hr
   rotate_left 1
   obtain⟨xv,pcX,hx⟩:=hxx false
   obtain⟨hx0,hp0⟩:=hx.2 rfl
   have qa:(a == 0)=false:=beq_false_of_ne za
   have q18:(i.op == 18)=true:=by rw [p18];rfl
   have OX:∀ w0:World,Calls Tryz.prog 43 #[.bool false] w0 fun e w'=>e= .returned (.int .i64 xv)/\w'=w0:=fun w0=>by rw [hx0];exact O0 w0
   have hr:Al.rrun C0.c sp C0.mem k1 (pcX:Int) regs mm (lk++[⟨1,(pc:Int)⟩]++[⟨2,xv⟩]) ((sn+1:Nat):Int)=R:=by have h:=HR false (by rw [p18];simp [za]);rw [if_neg (by decide),if_neg (by decide)] at h;rw [hx0,hp0];exact h
   have HRR:=Lib.hid hr
   have HPX:=Lib.hid (show pcX<=C0.c.length by omega)
   have HQ:=Lib.hid (show pcX=pc+1 from hp0)
   clear hx hx0 hp0 hr
   rotate_left 1
   obtain⟨xv,pcX,hx⟩:=hxx false
   obtain⟨hx0,hp0⟩:=hx.2 rfl
   have qa:(a == 0)=true:=by rw [za];rfl
   have q18:(i.op == 18)=false:=by rw [p19];rfl
   have q19:(i.op == 19)=true:=by rw [p19];rfl
   have OX:∀ w0:World,Calls Tryz.prog 43 #[.bool false] w0 fun e w'=>e= .returned (.int .i64 xv)/\w'=w0:=fun w0=>by rw [hx0];exact O0 w0
   have hr:Al.rrun C0.c sp C0.mem k1 (pcX:Int) regs mm (lk++[⟨1,(pc:Int)⟩]++[⟨2,xv⟩]) ((sn+1:Nat):Int)=R:=by have h:=HR false (by rw [p19];simp [za]);rw [if_neg (by decide),if_neg (by decide)] at h;rw [hx0,hp0];exact h
   have HRR:=Lib.hid hr
   have HPX:=Lib.hid (show pcX<=C0.c.length by omega)
   have HQ:=Lib.hid (show pcX=pc+1 from hp0)
   clear hx hx0 hp0 hr
   rotate_left 1
   obtain⟨xv,pcX,hx⟩:=hxx true
   obtain⟨hx1,hp1⟩:=hx.1 rfl
   have qa:(a == 0)=false:=beq_false_of_ne za
   have q18:(i.op == 18)=false:=by rw [p19];rfl
   have q19:(i.op == 19)=true:=by rw [p19];rfl
   have OX:∀ w0:World,Calls Tryz.prog 43 #[.bool true] w0 fun e w'=>e= .returned (.int .i64 xv)/\w'=w0:=fun w0=>by rw [hx1];exact O1 w0
   have hr:Al.rrun C0.c sp C0.mem k1 (pcX:Int) regs mm (lk++[⟨1,(pc:Int)⟩]++[⟨2,xv⟩]) ((sn+1:Nat):Int)=R:=by have h:=HR true (by rw [p19];simp [za]);rw [if_pos rfl,if_pos rfl,hpcN] at h;rw [hx1,hp1];exact h
   have HRR:=Lib.hid hr
   have HPC:=Lib.hid (show i.k=(pcX:Int) by rw [hpcN,hp1])
   have HPX:=Lib.hid (show pcX<=C0.c.length by omega)
   clear hx hx1 hp1 hr
   rotate_left 1
   all_goals as_aux_lemma=>
     have o9:=own1 xv;have hw9:=hnew xv;have hz9:=hszx xv;have s1':=s1 xv;have s4':=s4 xv;have Hn:=HNL xv;have HFL':=Lib.hid ((show ∀ x:Int,_ from HFL) xv)
     clear hxx hpcN hpl za HR own1 hnew hszx s1 s4 HNL HFL O1 O0;(try clear p18);(try clear p19)
     go_wp2_with fail
     clear c5'' I3 i0c i1c i2c i3c i4c i5c cc2 qa q15 q16 q17
     refine start_ (n:=9) (S:=fun w'=>w'.cell? ⟨kr,2,none⟩=some (.slice sa1 (lk.length+1) sc1)) (ds:=[8]) #[false,false,false,false,false,false,false,false,false] (by kernel_rfl) rfl rfl (c5x) (fun hHeld=>?_)
     refine pure_ (i:=0) (N:=some 195) (v:=?_) (a':=?_) #[true,false,false,false,false,false,false,false,false] rfl rfl (by kernel_rfl) (fun _ _ _ h=>h) (Or.inl ⟨by rfl,?_⟩) ?_ ?_
     rotate_left
     ·intro w'
      go_simp
      with_reducible rfl
     rotate_left
     ·simp only [Act.put,List.setIfInBounds_toArray,List.set_cons_zero,List.set_cons_succ,i64_w,i32_w]
      rfl
     refine pure_ (i:=2) (N:=some 197) (v:=?_) (a':=?_) #[true,false,true,false,false,false,false,false,false] rfl rfl (by kernel_rfl) (fun _ _ _ h=>h) (Or.inl ⟨by rfl,?_⟩) ?_ ?_
     rotate_left
     ·intro w'
      go_simp
      with_reducible rfl
     rotate_left
     ·simp only [Act.put,List.setIfInBounds_toArray,List.set_cons_zero,List.set_cons_succ,i64_w,i32_w]
      rfl
     refine take_ (i:=1) (N:=some 196) (v:=?_) (a':=?_) #[true,true,true,false,false,false,false,false,false] rfl rfl (by kernel_rfl) (fun _ _ _ h=>h) (Or.inl ⟨by rfl,?_⟩) hHeld ?_ ?_
     rotate_left
     ·intro w' s0
      go_simp
      with_reducible rfl
     rotate_left
     ·simp only [Act.put,List.setIfInBounds_toArray,List.set_cons_zero,List.set_cons_succ,i64_w,i32_w]
      rfl
     refine one_ (i:=3) (N:=some 198) #[true,true,true,true,false,false,false,false,false] rfl rfl (by kernel_rfl) (by decide) (fun K hK=>?_)
     first
      |refine goes_ Tryz.func43 (by kernel_rfl) rfl #[.bool true] (by rfl) rfl rfl (by simp only [List.map_toArray,List.map_cons,List.map_nil];rfl) ?_
      |refine goes_ Tryz.func43 (by kernel_rfl) rfl #[.bool false] (by rfl) rfl rfl (by simp only [List.map_toArray,List.map_cons,List.map_nil];rfl) ?_
     with_reducible refine (OX _).mono ?_
     rintro e w5 ⟨rfl,rfl⟩
     refine⟨_,rfl,?_⟩
     refine hK.out _ _ (c5x) (fun hHeld=>?_)
     clear hK K
     refine norm_ (a':=?_) ?_ ?_
     rotate_left
     ·show Act.put _ (some 198) _=_
      simp only [Act.put,List.setIfInBounds_toArray,List.set_cons_zero,List.set_cons_succ,i64_w,i32_w]
      rfl
     refine pure_ (i:=4) (N:=some 199) (v:=?_) (a':=?_) #[true,true,true,true,true,false,false,false,false] rfl rfl (by kernel_rfl) (fun _ _ _ h=>h) (Or.inl ⟨by rfl,?_⟩) ?_ ?_
     rotate_left
     ·intro w'
      go_simp
      with_reducible rfl
     rotate_left
     ·simp only [Act.put,List.setIfInBounds_toArray,List.set_cons_zero,List.set_cons_succ,i64_w,i32_w]
      rfl
     refine one_ (i:=5) (N:=some 200) #[true,true,true,true,true,true,false,false,false] rfl rfl (by kernel_rfl) (by decide) (fun K hK=>?_)
     go_simp
     refine hK.out _ _ (alloc_cell _ c5x) (fun hHeld=>?_)
     clear hK K
     refine one_ (i:=6) (N:=some 201) #[true,true,true,true,true,true,true,false,false] rfl rfl (by kernel_rfl) (by decide) (fun K hK=>?_)
     refine step_append_lies _ (by rfl) (.tmp 196) (.tmp 200) _ (by rfl) w.heap.size 103 i0 _ 2 16 Tryz.underlying49 hi0 iz0 iz1 iz2 rfl (by omega) (.slice sa1 (lk.length+1) sc1) (lk.length+1) (leaksV (lk++[⟨1,(pc:Int)⟩])) (by rfl) o9
      ⟨W3.heap.size,0,none⟩ 1 1 [.int .i64 2,.int .i64 xv] (by rfl) (by rfl) (World.news_of_block (cs:= #[.int .i64 2,.int .i64 xv]) (t:=103) (fr:=(0,0)) hw9) s1'
      (by omega) s2 s3 s4' (W3.heap.size+1) (by rw [hz9]) ?_
     intro gg cap W1 hown hgrow hat hlt
     have HH5:=Hn _ W1 hown (.inr hgrow)
     have c5_7:=HH5.2.2.1
     have f_7:=HH5.2.2.2
     have HH6:=Lib.hid HH5
     clear HH5
     refine hK.out _ _ (c5_7) (fun hHeld=>?_)
     clear hK K
     refine norm_ (a':=?_) ?_ ?_
     rotate_left
     ·show Act.put _ (some 201) _=_
      simp only [Act.put,List.setIfInBounds_toArray,List.set_cons_zero,List.set_cons_succ,i64_w,i32_w]
      rfl
     refine pure_ (i:=7) (N:=some 202) (v:=?_) (a':=?_) #[true,true,true,true,true,true,true,true,false] rfl rfl (by kernel_rfl) (fun _ _ _ h=>h) (Or.inl ⟨by rfl,?_⟩) ?_ ?_
     rotate_left
     ·intro w'
      go_simp
      with_reducible rfl
     rotate_left
     ·simp only [Act.put,List.setIfInBounds_toArray,List.set_cons_zero,List.set_cons_succ,i64_w,i32_w]
      rfl
     refine last_ (i:=8) (N:=none) #[true,true,true,true,true,true,true,true,true] rfl rfl (by kernel_rfl) (by decide) (fun K hK=>?_)
     go_simp
     refine hK.out _ _ ?_
     clear hK K
     refine done_ (by kernel_rfl) ?_
     obtain⟨h4',I4', -, -⟩:=(show _/\_ from HH6)
     refine gen_world (Q:=fun W=>Exit.then _ _ _ _ W) _ (fun W=>RW w W ⟨kc,kx,kr,gm,gr,C0.mem,mcap,C0.ia,C0.ic,C0.c⟩ regs mm (lk++[⟨1,(pc:Int)⟩]++[⟨2,xv⟩]) (.slice (some ⟨gg,0,none⟩) (lk.length+1+1) cap) ((sn:Int)+1)/\InsB W kI i) ⟨h4',I4'⟩ ?_
     clear c5x o9 hw9 hz9 s1' s2 s3 s4' Hn hown hgrow hat hlt h4' I4' HH6 c5_7 f_7 hd Id hHeld
     rintro W5 ⟨h5,I5⟩
     have i5c:=I5.cells.2.2.2.2.2
     try rw [show i.k=(pcX:Int) from HPC] at i5c
     have HN1:R9 w sp W5 ⟨kc,kx,kr,gm,gr,C0.mem,mcap,C0.ia,C0.ic,C0.c⟩ R k1 fuel pcX regs mm (lk++[⟨1,(pc:Int)⟩]++[⟨2,xv⟩]) (.slice (some ⟨gg,0,none⟩) (lk.length+1+1) cap) (sn+1):=
      ⟨by rw [<-(show _=_ from E1)];exact h5,show _=R from HRR,by omega,HFL',show pcX<=C0.c.length from HPX,hrw,hww⟩
     have HN3:=Lib.hid HN1
     clear HN1 h5 I5
     go_wp2_with fail
     go_roundg k1
     case measure=>omega
     case rel=>exact⟨pcX,_,_,_,_,_,by (try rw [show pcX=pc+1 from HQ]);first|rfl|(simp;done),HN3⟩
  have q18:(i.op == 18)=false:=beq_false_of_ne (by omega)
  have q19:(i.op == 19)=false:=beq_false_of_ne (by omega)
  by_cases p20:i.op=20
  ·as_aux_lemma=>
    have q20:(i.op == 20)=true:=by rw [p20];rfl
    have hr:=Al.srun_halt hrun' hl hi' p20
    rw [e1] at hr
    have hRh:=Lib.hid hr
    have E1:=Lib.hid e1
    clear e1
    have x3:W3.cell? ⟨kr,0,none⟩=some (.int .i64 0):=h3.cells.2.2.2.1
    have xf:W3.frozen? ⟨kr,0,none⟩=false:=h3.froz 0
    clear hk0 hk1 hk2 hk3 hk4 hop hfew2 hi' hrun' hwa hwb ho p17 p20 hbz hr cc2
    go_upto_region 44 with (fail)
    obtain⟨g1,g2,g3,g4,g5,g6⟩:=h3.field 0 (.int .i64 i.k)
    have g7:=set_blk h3.rb 0 (.int .i64 i.k)
    have g8:=h3.xb
    refine gen_world (Q:=fun W=>Code.wp _ _ _ _ W) _ (fun W=>W.heap[kr]?=some (.cells #[.int .i64 i.k,.slice (some ⟨gm,0,none⟩) C0.mem mcap,.slice sa1 (lk.length+1) sc1,.int .i64 ((sn:Int)+1),.int .i64 (-1)] 51 (0,0))/\W.heap[kx]?=some (.cells #[.int .i64 0,.slice none 0 0,.slice none 0 0,.int .i64 0,.int .i64 0] 51 (0,0))/\W.ownsRow w.heap.size 56 1 (.slice (some ⟨gm,0,none⟩) C0.mem mcap) C0.mem (wordsV mm)/\W.ownsRow w.heap.size 103 2 (.slice sa1 (lk.length+1) sc1) (lk++[(⟨1,(pc:Int)⟩:Al.Leak)]).length (leaksV (lk++[⟨1,(pc:Int)⟩]))/\Below w.heap.size w W) ⟨by simpa using g7,g2.trans g8,g3,g5,g6⟩ ?_
    have hx:w.heap.size<=kx:=h3.hx
    clear h3 I3 x3 xf g1 g2 g3 g4 g5 g6 g7 g8 i0c i1c i2c i3c i4c i5c
    rintro W5 ⟨b1',b2',m1,l1,hbw⟩
    have y0:W5.cell? ⟨kr,0,none⟩=some (.int .i64 i.k):=(cell_blk b1' _).trans rfl
    have y1:W5.cell? ⟨kr,1,none⟩=some (.slice (some ⟨gm,0,none⟩) C0.mem mcap):=(cell_blk b1' _).trans rfl
    have y2:W5.cell? ⟨kr,2,none⟩=some (.slice sa1 (lk.length+1) sc1):=(cell_blk b1' _).trans rfl
    have y3:W5.cell? ⟨kr,3,none⟩=some (.int .i64 ((sn:Int)+1)):=(cell_blk b1' _).trans rfl
    have y4:W5.cell? ⟨kr,4,none⟩=some (.int .i64 (-1)):=(cell_blk b1' _).trans rfl
    have z0:W5.cell? ⟨kx,0,none⟩=some (.int .i64 0):=(cell_blk b2' _).trans rfl
    have z1:W5.cell? ⟨kx,1,none⟩=some (.slice none 0 0):=(cell_blk b2' _).trans rfl
    have z2:W5.cell? ⟨kx,2,none⟩=some (.slice none 0 0):=(cell_blk b2' _).trans rfl
    have z3:W5.cell? ⟨kx,3,none⟩=some (.int .i64 0):=(cell_blk b2' _).trans rfl
    have z4:W5.cell? ⟨kx,4,none⟩=some (.int .i64 0):=(cell_blk b2' _).trans rfl
    have v0:W5.frozen? ⟨kx,0,none⟩=false:=frozen_blk b2' _
    have v1:W5.frozen? ⟨kx,1,none⟩=false:=frozen_blk b2' _
    have v2:W5.frozen? ⟨kx,2,none⟩=false:=frozen_blk b2' _
    have v3:W5.frozen? ⟨kx,3,none⟩=false:=frozen_blk b2' _
    have v4:W5.frozen? ⟨kx,4,none⟩=false:=frozen_blk b2' _
    have hS:=set5 b2' (.int .i64 i.k) (.slice (some ⟨gm,0,none⟩) C0.mem mcap) (.slice sa1 (lk.length+1) sc1) (.int .i64 ((sn:Int)+1)) (.int .i64 (-1))
    have hB5:=below_set5 (x0:= .int .i64 i.k) (x1:= .slice (some ⟨gm,0,none⟩) C0.mem mcap) (x2:= .slice sa1 (lk.length+1) sc1) (x3:= .int .i64 ((sn:Int)+1)) (x4:= .int .i64 (-1)) hbw hx
    have hm5:=own_set5 (x0:= .int .i64 i.k) (x1:= .slice (some ⟨gm,0,none⟩) C0.mem mcap) (x2:= .slice sa1 (lk.length+1) sc1) (x3:= .int .i64 ((sn:Int)+1)) (x4:= .int .i64 (-1)) m1 b2' (by decide)
    have hl5:=own_set5 (x0:= .int .i64 i.k) (x1:= .slice (some ⟨gm,0,none⟩) C0.mem mcap) (x2:= .slice sa1 (lk.length+1) sc1) (x3:= .int .i64 ((sn:Int)+1)) (x4:= .int .i64 (-1)) l1 b2' (by decide)
    go_wp2_with fail
    refine gen_world (Q:=fun W=>bodyPost _ _ _ _ _ W) _ (fun W=>W.heap[kx]?=some (.cells #[.int .i64 i.k,.slice (some ⟨gm,0,none⟩) C0.mem mcap,.slice sa1 (lk.length+1) sc1,.int .i64 ((sn:Int)+1),.int .i64 (-1)] 51 (0,0))/\W.ownsRow w.heap.size 56 1 (.slice (some ⟨gm,0,none⟩) C0.mem mcap) C0.mem (wordsV mm)/\W.ownsRow w.heap.size 103 2 (.slice sa1 (lk.length+1) sc1) (lk++[(⟨1,(pc:Int)⟩:Al.Leak)]).length (leaksV (lk++[⟨1,(pc:Int)⟩]))/\Below w.heap.size w W) ⟨hS,hm5,hl5,hB5⟩ ?_
    clear hS hm5 hl5 hB5 b1' b2' m1 l1 hbw y0 y1 y2 y3 y4 z0 z1 z2 z3 z4 v0 v1 v2 v3 v4
    rintro W9 ⟨bk,m9,l9,hb9⟩
    have z0:W9.cell? ⟨kx,0,none⟩=some (.int .i64 i.k):=(cell_blk bk _).trans rfl
    have z1:W9.cell? ⟨kx,1,none⟩=some (.slice (some ⟨gm,0,none⟩) C0.mem mcap):=(cell_blk bk _).trans rfl
    have z2:W9.cell? ⟨kx,2,none⟩=some (.slice sa1 (lk.length+1) sc1):=(cell_blk bk _).trans rfl
    have z3:W9.cell? ⟨kx,3,none⟩=some (.int .i64 ((sn:Int)+1)):=(cell_blk bk _).trans rfl
    have z4:W9.cell? ⟨kx,4,none⟩=some (.int .i64 (-1)):=(cell_blk bk _).trans rfl
    have hR:=show R=_ from hRh
    rw [show (sn:Int)+1=_ from E1] at z3
    refine bodyPost_ret (v:= .agg #[.int .i64 i.k,.slice (some ⟨gm,0,none⟩) C0.mem mcap,.slice sa1 (lk.length+1) sc1,.int .i64 ((sn+1:Nat):Int),.int .i64 (-1)]) (by simp [results,Tryz.results12,go_sem,z0,z1,z2,z3,z4]) rfl ?_
    rw [hR]
    exact⟨_,_,rfl,m9,l9,hb9⟩
  have q20:(i.op == 20)=false:=beq_false_of_ne p20
  have hval:1<=i.op/\i.op<=14:=by omega
  have hkv:i.op≠1->0<=i.k/\i.k<=63:=fun h1=>by
   by_cases hs:10<=i.op/\i.op<=12
   ·exact hk1 hs
   ·have:¬Al.hasK i.op:=by unfold Al.hasK;omega
    have:=hk0 this
    omega
  obtain⟨hr,hin⟩:=Al.srun_val hrun' HC.wrong hl hi' hval
  have hspl:=hsl
  replace hin:=hin (fun e=>by rw [e] at hspl;simp at hspl;omega)
  obtain⟨cv,hcv⟩:∃ cv,cv=Al.gI regs i.c:=⟨_,rfl⟩
  rw [<-(show a=_ from haH),<-(show b=_ from hbH)] at hin
  rw [<-(show a=_ from haH),<-(show b=_ from hbH),<-hcv,e1] at hr
  have hwc:0<=cv/\cv<18446744073709551616:=by rw [hcv];exact Al.gI_word (show ∀ x∈regs,0<=x/\x<18446744073709551616 from hrw) _
  have hvw:=Al.wvalue_word (i:=i) hwa hwb hwc
  have HVal:=fun w0=>mach_value w0 i a b cv hwa hwb hval hkv
  have hcvH:=Lib.hid hcv
  obtain⟨V,hV⟩:∃ V,V=Al.wvalue i a b cv:=⟨_,rfl⟩
  rw [<-hV] at hr hvw HVal
  have hrH:=Lib.hid hr
  have hvwH:=Lib.hid hvw
  have E1:=Lib.hid e1
  have hp1:pc+1<=C0.c.length:=by omega
  have x4:W3.cell? ⟨kr,4,none⟩=some (.int .i64 (-1)):=h3.cells.2.2.2.2.2.2.2
  obtain⟨gs,hgs,s0,s1⟩:=spans_get HS (j:=pc) (by omega)
  replace s0:=cell_since h3.b s0
  replace s1:=cell_since h3.b s1
  obtain⟨sq,hsq⟩:∃ sq,sq=sp.getD pc default:=⟨_,rfl⟩
  rw [<-hsq] at hin
  have hsq2:sp[pc]'(by omega)=sq:=by rw [hsq,List.getD_eq_getElem?_getD,List.getElem?_eq_getElem (by omega)];rfl
  rw [hsq2] at s0 s1
  have l0:decide ((0:Int)<(sp.length:Int))=true:=decide_eq_true (by omega)
  have l1:decide ((-1:Int)<0)=true:=by decide
  have u4:(pc:Int)<(sp.length:Int):=by omega
  have HX:(3<=i.op/\i.op<=5)\/i.op=10->∃ n:Int,(sq.low<=n/\n<=sq.high)/\∀ w0:World,Calls Tryz.prog 44 #[.agg #[.int .i64 i.op,.int .i64 i.d,.int .i64 i.a,.int .i64 i.b,.int .i64 i.c,.int .i64 i.k],.int .u64 a,.int .u64 b] w0 fun e w'=>e= .returned (.tuple #[.int .i64 n,.bool true])/\Below w0.heap.size w0 w':=fun ho=>exact17 W3 i sq a b hwa hwb ho hin
  have hsa:=hgs
  subst hgs
  have four:i.op<3\/(i.op > 5/\i.op≠10)\/(3<=i.op/\i.op<=5)\/i.op=10:=by omega
  replace hsq:=Lib.hid hsq
  clear hk0 hk1 hk2 hk3 hk4 hop hfew2 hi' hrun' hwa hwb hwc ho p17 p20 hbz hr hvw e1 hkv hval hV hcv hin hspl hsq2 hsa
  have i0d:=i0c
  rcases four with f4|f4|f4|f4
  have g1:decide (3<=i.op)=false:=decide_eq_false (by omega)
  have g3:(i.op == 10)=false:=beq_false_of_ne (by omega)
  clear f4 HX
  focus (go_upto_region 22 with fail)
  refine gen_world (Q:=fun W=>Code.wp _ _ _ _ W) _ (fun W=>RW w W ⟨kc,kx,kr,gm,gr,C0.mem,mcap,C0.ia,C0.ic,C0.c⟩ regs mm (lk++[⟨1,(pc:Int)⟩]) (.slice sa1 (lk.length+1) sc1) ((sn:Int)+1)/\InsB W kI i) ⟨h3,I3⟩ ?_
  clear h3 I3 i0c i0d i1c i2c i3c i4c i5c x4 s0 s1 cc2 l0 l1 u4 g1 g3
  rotate_left 1
  have g1:decide (3<=i.op)=true:=decide_eq_true (by omega)
  have g2:decide (i.op<=5)=false:=decide_eq_false (by omega)
  have g3:(i.op == 10)=false:=beq_false_of_ne f4.2
  have g4:(decide (i.op<=5) || i.op == 10)=false:=by rw [g2,g3];rfl
  clear f4 HX
  focus (go_upto_region 22 with fail)
  refine gen_world (Q:=fun W=>Code.wp _ _ _ _ W) _ (fun W=>RW w W ⟨kc,kx,kr,gm,gr,C0.mem,mcap,C0.ia,C0.ic,C0.c⟩ regs mm (lk++[⟨1,(pc:Int)⟩]) (.slice sa1 (lk.length+1) sc1) ((sn:Int)+1)/\InsB W kI i) ⟨h3,I3⟩ ?_
  clear h3 I3 i0c i0d i1c i2c i3c i4c i5c x4 s0 s1 cc2 l0 l1 u4 g1 g2 g3 g4
  rotate_left 1
  have g1:decide (3<=i.op)=true:=decide_eq_true f4.1
  have g2:decide (i.op<=5)=true:=decide_eq_true f4.2
  have g4:(decide (i.op<=5) || i.op == 10)=true:=by rw [g2];rfl
  obtain⟨nx,⟨n1,n2⟩,HXX⟩:=HX (.inl f4)
  have n3:decide (nx<sq.low)=false:=decide_eq_false (by omega)
  have n4:decide (sq.high<nx)=false:=decide_eq_false (by omega)
  clear f4 HX n1 n2
  focus
   go_upto_region 22 with (first|(go_at_call 44;refine (HXX _).mono ?_;rintro e w5 ⟨rfl,hb5⟩;replace s0:=cell_since hb5 s0;replace s1:=cell_since hb5 s1))
   refine gen_world (Q:=fun W=>Code.wp _ _ _ _ W) _ (fun W=>RW w W ⟨kc,kx,kr,gm,gr,C0.mem,mcap,C0.ia,C0.ic,C0.c⟩ regs mm (lk++[⟨1,(pc:Int)⟩]) (.slice sa1 (lk.length+1) sc1) ((sn:Int)+1)/\InsB W kI i) ⟨h3.below hb5,below_blk hb5 I3 (blk_lt I3)⟩ ?_
   clear h3 I3 i0c i0d i1c i2c i3c i4c i5c x4 s0 s1 cc2 l0 l1 u4 HXX hb5 n3 n4 g1 g2 g4
  rotate_left 1
  have g1:decide (3<=i.op)=true:=decide_eq_true (by omega)
  have g2:decide (i.op<=5)=false:=decide_eq_false (by omega)
  have g3:(i.op == 10)=true:=by rw [f4];rfl
  have g4:(decide (i.op<=5) || i.op == 10)=true:=by rw [g3];cases decide (i.op<=5)<;> rfl
  obtain⟨nx,⟨n1,n2⟩,HXX⟩:=HX (.inr f4)
  have n3:decide (nx<sq.low)=false:=decide_eq_false (by omega)
  have n4:decide (sq.high<nx)=false:=decide_eq_false (by omega)
  clear f4 HX n1 n2
  focus
   go_upto_region 22 with (first|(go_at_call 44;refine (HXX _).mono ?_;rintro e w5 ⟨rfl,hb5⟩;replace s0:=cell_since hb5 s0;replace s1:=cell_since hb5 s1))
   refine gen_world (Q:=fun W=>Code.wp _ _ _ _ W) _ (fun W=>RW w W ⟨kc,kx,kr,gm,gr,C0.mem,mcap,C0.ia,C0.ic,C0.c⟩ regs mm (lk++[⟨1,(pc:Int)⟩]) (.slice sa1 (lk.length+1) sc1) ((sn:Int)+1)/\InsB W kI i) ⟨h3.below hb5,below_blk hb5 I3 (blk_lt I3)⟩ ?_
   clear h3 I3 i0c i0d i1c i2c i3c i4c i5c x4 s0 s1 cc2 l0 l1 u4 HXX hb5 n3 n4 g1 g2 g4
  rotate_left 1
  all_goals as_aux_lemma=>
    rintro W4 ⟨h4,I4⟩
    obtain⟨i0c,i1c,i2c,i3c,i4c,i5c⟩:=I4.cells
    have ccc:=(h4.regAt (j:=i.c.toNat) (by omega)).1
    dsimp only at ccc
    rw [show regs.getD i.c.toNat 0=cv from (show cv=_ from hcvH).symm] at ccc
    have hd:=h4.drew
    have Id:InsB W4.drew kI i:=I4
    go_region_held3 (fun w'=>w'.cell? ⟨kI,0,none⟩=some (.int .i64 i.op)/\w'.cell? ⟨kI,1,none⟩=some (.int .i64 i.d)/\w'.cell? ⟨kI,2,none⟩=some (.int .i64 i.a)/\w'.cell? ⟨kI,3,none⟩=some (.int .i64 i.b)/\w'.cell? ⟨kI,4,none⟩=some (.int .i64 i.c)/\w'.cell? ⟨kI,5,none⟩=some (.int .i64 i.k)/\w'.cell? ⟨gr,i.c.toNat,none⟩=some (.int .u64 cv)) ((refine⟨?_,?_,?_,?_,?_,?_,?_⟩<;> assumption)) (first
     |(go_at_call 45;refine (HVal _).mono ?_;rintro e w5 ⟨rfl,hb5⟩;have h5:=hd.below hb5;have I5:InsB w5 kI i:=below_blk hb5 Id (blk_lt Id);obtain⟨j0c,j1c,j2c,j3c,j4c,j5c⟩:=I5.cells;have jcc:=(h5.regAt (j:=i.c.toNat) (by omega)).1;dsimp only at jcc;rw [show regs.getD i.c.toNat 0=cv from (show cv=_ from hcvH).symm] at jcc;have cd:=(h5.regAt (j:=i.d.toNat) (by omega)).1;have fd:=(h5.regAt (j:=i.d.toNat) (by omega)).2;have HN3:Hid (R9 w sp (w5.setCell ⟨gr,i.d.toNat,none⟩ (.int .u64 V)) ⟨kc,kx,kr,gm,gr,C0.mem,mcap,C0.ia,C0.ic,C0.c⟩ R k1 fuel (pc+1) (Al.setI regs i.d V) mm (lk++[⟨1,(pc:Int)⟩]) (.slice sa1 (lk.length+1) sc1) (sn+1)):=Lib.hid ⟨by rw [<-(show _=_ from E1)];exact h5.reg _ _,show _=R from hrH,by omega,HLK,hp1,Al.setI_word (show ∀ x∈regs,0<=x/\x<18446744073709551616 from hrw) hvwH,show ∀ x∈mm,0<=x/\x<18446744073709551616 from hww⟩;dsimp only at cd fd;clear h5 I5 hd Id hb5 h4 I4))
    go_wp2_with fail
    go_roundg k1
    case measure=>omega
    case rel=>exact⟨pc+1,_,_,_,_,_,by simp,HN3⟩
end Go.Proofs.YtkplfaionpplaaaGreatDoor
