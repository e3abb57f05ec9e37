/- Part 32: B82. -/
import Derived.Test.YtkplfaionpplaaaGreatDoorK31
set_option maxRecDepth 100000
set_option maxHeartbeats 6400000
set_option linter.unusedVariables false
set_option linter.unusedSimpArgs false
namespace Go.Proofs.YtkplfaionpplaaaGreatDoor
open Go.RowKit Go.Proofs.YtkplfaionpplaaaGreatDoorW.PrintLast Go.Proofs.YtkplfaionpplaaaGreatDoorW.PrintWords
structure RnB (w:World)(kp kf:Nat)(p:Al.Prog)(Va Ab:Option Addr)(vc cb:Nat):Prop where
 P:PBox w kp p Va Ab vc cb
 r8:w.heap[kp+1]?=some (.cells #[.int .i64 0,.slice none 0 0,.slice none 0 0,.int .i64 0,.int .i64 0] 34 (0,0))
 r9:w.heap[kp+1+1]?=some (.cells #[.int .i64 0,.bool false,.int .i64 0] 36 (0,0))
 rf:w.heap[kf]?=some (.cells #[.int .i64 0,.bool false,.int .i64 0] 36 (0,0))
theorem RnB.kk {w w':World}{kp kf:Nat}{p:Al.Prog}{Va Ab:Option Addr}{vc cb:Nat}(h:RnB w kp kf p Va Ab vc cb)(hk:KK w w'):RnB w' kp kf p Va Ab vc cb:=
 ⟨hk _ (by decide) (by decide) (by decide) _ _ h.P,hk _ (by decide) (by decide) (by decide) _ _ h.r8,hk _ (by decide) (by decide) (by decide) _ _ h.r9,hk _ (by decide) (by decide) (by decide) _ _ h.rf⟩
theorem inputs_fine {q n:Int}{vars:List Al.Var}{ins:List (List Int)}{tape:List Int}{fuel:Int}(h:(Al.inputsF q n vars ins tape fuel).code=0):Al.inputsF q n vars ins tape fuel= .fine:=by
 unfold Al.inputsF at h ⊢
 by_cases h1:ins.length≠(Al.kindsOf vars 1).length
 ·rw [if_pos h1] at h;cases h
 rw [if_neg h1] at h ⊢
 by_cases h2:(Al.firstV q n ins 0).code≠0
 ·rw [if_pos h2] at h;exact absurd h h2
 rw [if_neg h2] at h ⊢
 by_cases h3:tape.length > 4096
 ·rw [if_pos h3] at h;cases h
 rw [if_neg h3] at h ⊢
 by_cases h4:fuel<0\/fuel > 1073741824
 ·rw [if_pos h4] at h;cases h
 rw [if_neg h4]
theorem run_fin {w0 w:World}{B kp:Nat}(r8:w.heap[kp+1]?=some (.cells #[.int .i64 0,.slice none 0 0,.slice none 0 0,.int .i64 0,.int .i64 0] 34 (0,0)))(r9:w.heap[kp+1+1]?=some (.cells #[.int .i64 0,.bool false,.int .i64 0] 36 (0,0)))(hk:B<=kp)(hb:Below B w0 w)(x0 x1 x2 x3 x4 y0 y1 y2:Value):
  (((((((((w.setCell ⟨kp+1,0,none⟩ x0).setCell ⟨kp+1,1,none⟩ x1).setCell ⟨kp+1,2,none⟩ x2).setCell ⟨kp+1,3,none⟩ x3).setCell ⟨kp+1,4,none⟩ x4).setCell ⟨kp+1+1,0,none⟩ y0).setCell ⟨kp+1+1,1,none⟩ y1).setCell ⟨kp+1+1,2,none⟩ y2).drew).heap[kp+1]?=some (.cells #[x0,x1,x2,x3,x4] 34 (0,0))/\
  (((((((((w.setCell ⟨kp+1,0,none⟩ x0).setCell ⟨kp+1,1,none⟩ x1).setCell ⟨kp+1,2,none⟩ x2).setCell ⟨kp+1,3,none⟩ x3).setCell ⟨kp+1,4,none⟩ x4).setCell ⟨kp+1+1,0,none⟩ y0).setCell ⟨kp+1+1,1,none⟩ y1).setCell ⟨kp+1+1,2,none⟩ y2).drew).heap[kp+1+1]?=some (.cells #[y0,y1,y2] 36 (0,0))/\
  Below B w0 (((((((((w.setCell ⟨kp+1,0,none⟩ x0).setCell ⟨kp+1,1,none⟩ x1).setCell ⟨kp+1,2,none⟩ x2).setCell ⟨kp+1,3,none⟩ x3).setCell ⟨kp+1,4,none⟩ x4).setCell ⟨kp+1+1,0,none⟩ y0).setCell ⟨kp+1+1,1,none⟩ y1).setCell ⟨kp+1+1,2,none⟩ y2).drew)/\
  ∀ t,34≠t->36≠t->Keeps w (((((((((w.setCell ⟨kp+1,0,none⟩ x0).setCell ⟨kp+1,1,none⟩ x1).setCell ⟨kp+1,2,none⟩ x2).setCell ⟨kp+1,3,none⟩ x3).setCell ⟨kp+1,4,none⟩ x4).setCell ⟨kp+1+1,0,none⟩ y0).setCell ⟨kp+1+1,1,none⟩ y1).setCell ⟨kp+1+1,2,none⟩ y2).drew) t:=by
 obtain⟨V,hV⟩:∃ V,V=(((((w.setCell ⟨kp+1,0,none⟩ x0).setCell ⟨kp+1,1,none⟩ x1).setCell ⟨kp+1,2,none⟩ x2).setCell ⟨kp+1,3,none⟩ x3).setCell ⟨kp+1,4,none⟩ x4):=⟨_,rfl⟩
 have h1:=set5 r8 x0 x1 x2 x3 x4
 have h2:V.heap[kp+1+1]?=some (.cells #[.int .i64 0,.bool false,.int .i64 0] 36 (0,0)):=by rw [hV];exact Keeps.set5 r8 (by decide) x0 x1 x2 x3 x4 _ _ r9
 have h3:=below_set5 (x0:=x0) (x1:=x1) (x2:=x2) (x3:=x3) (x4:=x4) hb (show B<=kp+1 by omega)
 have h4:=fun t ht=>Keeps.set5 (t:=t) r8 ht x0 x1 x2 x3 x4
 rw [<-hV] at h1 h3 h4 ⊢
 clear hV
 have h5:=Keeps.set3 (t:=34) h2 (by decide) y0 y1 y2 _ _ h1
 have h6:=set3 h2 y0 y1 y2
 have h7:=below_set3 (x0:=y0) (x1:=y1) (x2:=y2) h3 (show B<=kp+1+1 by omega)
 have h8:=fun t ht (ht2:36≠t)=>(h4 t ht).trans (Keeps.set3 h2 ht2 y0 y1 y2)
 exact⟨h5,h6,⟨h7.os,h7.tape,h7.output,h7.size,h7.block⟩,h8⟩
def RunPost (w0:World)(p:Al.Prog)(y:Al.RS)(e:Ending)(w':World):Prop:=∃ vo ve es,e= .returned (.tuple #[.agg #[.int .i64 y.code,vo,ve,.int .i64 y.steps,.int .i64 y.used],.agg #[.int .i64 0,.bool false,.int .i64 0]])/\(∃ a l c,vo= .slice a l c)/\w'.ownsRow w0.heap.size 114 3 ve y.evs.length es/\EvR w' w0.heap.size y.evs es/\
 Below w0.heap.size w0 w'/\(y.over=false->∃ os,w'.ownsRow w0.heap.size 86 1 vo (Al.kindsOf p.vars 2).length os/\∀ i (h:i<(Al.kindsOf p.vars 2).length),∃ v,os[i]?=some v/\w'.ownsRow w0.heap.size 3 1 v p.n.toNat (vecV p.n.toNat (y.V (Al.kindsOf p.vars 2)[i].toNat)))
set_option maxHeartbeats 51200000 in
theorem ref_run {w:World}{p:Al.Prog}{Va Ab Ia Ta:Option Addr}{vc cb ic tc:Nat}{ins:List (List Int)}{tape:List Int}{F:Nat}(hp:PLies w p Va Ab vc cb)(hF:Al.Fine p)(hck:(Al.checkF p).code=0)(hin:(Al.inputsF p.q p.n p.vars ins tape F).code=0)
  (hi:Kd.C (Kd.slice 3 (Kd.int .i64)) w Ia ins.length ins) (hT:(Kd.int .u32).C w Ta tape.length tape) (ht:∀ t∈tape,0<=t/\t<4294967296) (hf:F<=100000000):
  Calls Tryz.prog 9 #[.agg #[.int .i64 p.q,.int .i64 p.n,.slice Va p.vars.length vc,.slice Ab p.body.length cb],.slice Ia ins.length ic,.slice Ta tape.length tc,.int .i64 F] w (RunPost w p (Al.exF p ins tape F)):=by
 obtain⟨y,hy⟩:∃ y,y=Al.exF p ins tape F:=⟨_,rfl⟩
 rw [<-hy]
 have hio:=Al.inOk_of hin
 have hinf:=inputs_fine hin
 have hq:=hF.q
 have hn:=hF.n
 obtain⟨n,hpn⟩:∃ n:Nat,p.n=n:=⟨p.n.toNat,by omega⟩
 have hvl:p.vars.length<=12:=hF.vars
 have hnn0:4<=n:=by omega
 have hnn1:n<=256:=by omega
 obtain⟨W,hW⟩:∃ W,W=((w.alloc (.cells #[.int .i64 p.q,.int .i64 p.n,.slice Va p.vars.length vc,.slice Ab p.body.length cb] 27)).alloc (.cells #[.int .i64 0,.slice none 0 0,.slice none 0 0,.int .i64 0,.int .i64 0] 34)).alloc (.cells #[.int .i64 0,.bool false,.int .i64 0] 36):=⟨_,rfl⟩
 obtain⟨kp,hkp⟩:∃ kp,kp=w.heap.size:=⟨_,rfl⟩
 have hb0:Below w.heap.size w W:=by rw [hW];exact (alloc_two w _ _).alloc (by simp;omega) _
 have P0:PBox W kp p Va Ab vc cb:=by rw [hW,hkp];exact alloc_blk _ (alloc_blk _ (heap_alloc_new w _))
 have R8:W.heap[kp+1]?=some (.cells #[.int .i64 0,.slice none 0 0,.slice none 0 0,.int .i64 0,.int .i64 0] 34 (0,0)):=by rw [hW,hkp];exact alloc_blk _ (alloc_at _ _ _)
 have R9:W.heap[kp+1+1]?=some (.cells #[.int .i64 0,.bool false,.int .i64 0] 36 (0,0)):=by
  rw [hW,hkp]
  have:=heap_alloc_new ((w.alloc (.cells #[.int .i64 p.q,.int .i64 p.n,.slice Va p.vars.length vc,.slice Ab p.body.length cb] 27)).alloc (.cells #[.int .i64 0,.slice none 0 0,.slice none 0 0,.int .i64 0,.int .i64 0] 34)) (.cells #[.int .i64 0,.bool false,.int .i64 0] 36)
  simpa using this
 have HCk:=ref_check (hp.below hb0) (by have:=hF.flat;omega) (by omega)
 rw [hck] at HCk
 obtain⟨cp,hcp⟩:∃ cp,cp=(Al.checkF p).placed:=⟨_,rfl⟩
 obtain⟨cq,hcq⟩:∃ cq,cq=(Al.checkF p).pos:=⟨_,rfl⟩
 rw [<-hcp,<-hcq] at HCk
 have HIn:=fun (w1:World) (hb:Below w.heap.size w w1)=>ref_inputs (w:=w1) (q:=p.q) (n:=p.n) (tape:=tape) (Ta:=Ta) (tc:=tc) (vc:=vc) (ic:=ic) F (Kd.C_below hp.v hb) (by omega) (Kd.C_below hi hb) (by have:=hio.len;have:=kindsFrom_len p.vars 1 0;unfold Al.kindsOf at *;omega)
 simp only [hinf,faultV,Al.Fault.fine] at HIn
 have HP:=Lib.hid hp
 have HI:=Lib.hid hi
 have HTT:=Lib.hid hT
 have Htt:=Lib.hid ht
 have HY:=Lib.hid hy
 have HIO:=Lib.hid hio
 have HFI:=Lib.hid hF
 have HPN:=Lib.hid hpn
 clear hp hi hT ht hy hio hinf hF hck hin hcp hcq hpn
 go_enter Tryz.func9,Tryz.ntmps9
 go_upto_region 1 with (fail)
 rw [<-hW]
 simp only [<-hkp]
 have HKP:=Lib.hid hkp
 obtain⟨p0,p1,p2,p3⟩:=P0.cells
 clear hW hkp
 go_upto_region 2 with (first
  |(go_at_call 19;((with_reducible refine HCk.mono ?_);rintro e w1 ⟨rfl,hb1⟩;have P1:PBox w1 kp p Va Ab vc cb:=below_blk hb1 P0 (blk_lt P0);have R81:=below_blk hb1 R8 (blk_lt R8);have R91:=below_blk hb1 R9 (blk_lt R9);have hb2:=hb0.trans (lower_below hb1 hb0.size);clear P0 R8 R9 hb1 HCk p0 p1 p2 p3 hb0)))
 refine gen_world (Q:=fun W=>Code.wp _ _ _ _ W) _ (fun W=>PBox W kp p Va Ab vc cb/\W.heap[kp+1]?=some (.cells #[.int .i64 0,.slice none 0 0,.slice none 0 0,.int .i64 0,.int .i64 0] 34 (0,0))/\W.heap[kp+1+1]?=some (.cells #[.int .i64 0,.bool false,.int .i64 0] 36 (0,0))/\W.heap[w1.heap.size]?=some (.cells #[.int .i64 0,.bool cp,.int .i64 cq] 36 (0,0))/\Below w.heap.size w W) ⟨alloc_blk _ P1,alloc_blk _ R81,alloc_blk _ R91,heap_alloc_new w1 _,hb2.alloc hb2.size _⟩ ?_
 obtain⟨kf,hkf⟩:∃ kf,kf=w1.heap.size:=⟨_,rfl⟩
 have hkfb:w.heap.size<=kf:=by rw [hkf];exact hb2.size
 simp only [<-hkf]
 have hk9:kp+1+1<kf:=by rw [hkf];exact blk_lt R91
 have HKF:=Lib.hid hkf
 clear P1 R81 R91 hb2 hkf
 rintro W2 ⟨P2,R8,R9,RF,hb2⟩
 obtain⟨p0,p1,p2,p3⟩:=P2.cells
 have f0:W2.cell? ⟨kf,0,none⟩=some (.int .i64 0):=(cell_blk RF _).trans rfl
 have f1:W2.cell? ⟨kf,1,none⟩=some (.bool cp):=(cell_blk RF _).trans rfl
 have f2:W2.cell? ⟨kf,2,none⟩=some (.int .i64 cq):=(cell_blk RF _).trans rfl
 have HIn2:=HIn W2 hb2
 clear HIn
 go_upto_region 6 with (first
  |(go_at_call 21;((with_reducible refine HIn2.mono ?_);rintro e w3 ⟨rfl,hb3⟩;have P3:PBox w3 kp p Va Ab vc cb:=below_blk hb3 P2 (blk_lt P2);have R83:=below_blk hb3 R8 (blk_lt R8);have R93:=below_blk hb3 R9 (blk_lt R9);have RF3:=below_blk hb3 RF (blk_lt RF);have hb4:=hb2.trans (lower_below hb3 hb2.size);have f0:w3.cell? ⟨kf,0,none⟩=some (.int .i64 0):=(cell_blk RF3 _).trans rfl;have f1:w3.cell? ⟨kf,1,none⟩=some (.bool cp):=(cell_blk RF3 _).trans rfl;have f2:w3.cell? ⟨kf,2,none⟩=some (.int .i64 cq):=(cell_blk RF3 _).trans rfl;have g0:=frozen_blk RF3 0;have g1:=frozen_blk RF3 1;have g2:=frozen_blk RF3 2;clear P2 R8 R9 RF hb3 HIn2 p0 p1 p2 p3 hb2)))
 refine gen_world (Q:=fun W=>Code.wp _ _ _ _ W) _ (fun W=>RnB W kp kf p Va Ab vc cb/\Below w.heap.size w W) ⟨⟨?_,?_,?_,set3 RF3 _ _ _⟩,below_set3 hb4 hkfb⟩ ?_
 ·show _=_;rw [set_blk_ne _ _ (by omega),set_blk_ne _ _ (by omega),set_blk_ne _ _ (by omega)];exact P3
 ·rw [set_blk_ne _ _ (by omega),set_blk_ne _ _ (by omega),set_blk_ne _ _ (by omega)];exact R83
 ·rw [set_blk_ne _ _ (by omega),set_blk_ne _ _ (by omega),set_blk_ne _ _ (by omega)];exact R93
 clear P3 R83 R93 RF3 hb4 f0 f1 f2 g0 g1 g2
 rintro W4 ⟨RN,hb4⟩
 obtain⟨p0,p1,p2,p3⟩:=RN.P.cells
 obtain⟨kx,hkx⟩:∃ kx,kx=W4.heap.size:=⟨_,rfl⟩
 obtain⟨C,hC⟩:∃ C:XC,C=⟨kx,p.q,n,p.vars.length,Va,vc,.slice Ab p.body.length cb,tape,Ta,tc,F⟩:=⟨_,rfl⟩
 have hpn:p.n=(n:Int):=HPN
 have hcell:C.cells (rs0 C.tape fun _ _=>0) (.slice none 0 0) (.slice none 0 0)= #[.int .i64 p.q,.int .i64 p.n,.slice Va p.vars.length vc,.slice Ab p.body.length cb,.slice none 0 0,.slice Ta tape.length tc,.int .i64 F,.int .i64 0,.slice none 0 0,.slice none 0 0,.int .i64 0,.int .i64 0,.bool false]:=by rw [hC,hpn];rfl
 have HH:Hid (RnB (W4.alloc (.cells #[.int .i64 p.q,.int .i64 p.n,.slice Va p.vars.length vc,.slice Ab p.body.length cb,.slice none 0 0,.slice Ta tape.length tc,.int .i64 F,.int .i64 0,.slice none 0 0,.slice none 0 0,.int .i64 0,.int .i64 0,.bool false] 85)) kp kf p Va Ab vc cb/\∃ vv cs,VrB w (W4.alloc (.cells #[.int .i64 p.q,.int .i64 p.n,.slice Va p.vars.length vc,.slice Ab p.body.length cb,.slice none 0 0,.slice Ta tape.length tc,.int .i64 F,.int .i64 0,.slice none 0 0,.slice none 0 0,.int .i64 0,.int .i64 0,.bool false] 85)) C 0 vv cs):=Lib.hid (by
  rw [<-hcell]
  exact⟨RN.kk (fun t _ _ _ k c hc=>alloc_blk _ hc),.slice none 0 0,[],⟨by rw [hC,hkx];exact heap_alloc_new W4 _,World.ownsRow_nil _ _ _ _,fun i hi=>by omega,hb4.alloc hb4.size _,by rw [hC];show _<=kx;rw [hkx];exact hb4.size⟩⟩)
 clear hcell
 clear RN hb4 hpn
 go_wp2_with fail
 simp only [<-hkx]
 have HC:=Lib.hid hC
 replace hkx:=Lib.hid hkx
 clear hC p0 p1 p2 p3
 have hn0:0<n:=by omega
 obtain⟨j1,hj1,kz0,kz1,kz2⟩:=info_parts Tryz.infoInts
 have hmk:=print_make (P:=Tryz.prog) 86 3 .i64 8 Tryz.underlying86 Tryz.infoInt (by omega) n (by omega)
 go_loopg [12] (p.vars.length+1) (fun gk v12 w'=>∃ i:Nat,v12= .int .i64 i/\i+gk=p.vars.length+1/\i<=p.vars.length/\Hid (RnB w' kp kf p Va Ab vc cb/\∃ vv cs,VrB w w' C i vv cs))
 case atStart=>exact⟨0,rfl,by omega,by omega,HH⟩
 case round=>
  obtain⟨i,rfl,hg,hi2,HR⟩:=hrel
  obtain⟨RN,vv,cs,V⟩:=show RnB wr kp kf p Va Ab vc cb/\∃ vv cs,VrB w wr C i vv cs from HR
  clear HH HR
  obtain⟨p0,p1,p2,p3⟩:=RN.P.cells
  rw [show p.n=(n:Int) from HPN] at p1
  have hkxC:C.kx=kx:=by rw [show C=_ from HC]
  have hnC:C.n=n:=by rw [show C=_ from HC]
  have c4:wr.cell? ⟨kx,4,none⟩=some vv:=by have:=cell_blk V.blk 4;rw [hkxC] at this;exact this.trans rfl
  by_cases hil:i<p.vars.length
  ·obtain⟨k1,rfl⟩:∃ k1,gk=k1+1:=⟨gk - 1,by omega⟩
   have t1:decide ((i:Int)<(p.vars.length:Int))=true:=decide_eq_true (by omega)
   have hgk:Hid (i+1+k1=p.vars.length+1):=Lib.hid (by omega)
   have hA:=(V.alloc (.cells (madeCells #[.int .i64 0] n) 3)).alloc (.cells #[.slice (some ⟨wr.heap.size,0,none⟩) n n] 86)
   have hv:((wr.alloc (.cells (madeCells #[.int .i64 0] n) 3)).alloc (.cells #[.slice (some ⟨wr.heap.size,0,none⟩) n n] 86)).ownsRow w.heap.size 3 1 (.slice (some ⟨wr.heap.size,0,none⟩) n n) C.n (vecV C.n fun _=>0):=by rw [hnC];exact ((own_made0 wr (n:=n) V.b.size (by omega)).alloc (.cells #[.slice (some ⟨wr.heap.size,0,none⟩) n n] 86))
   have hKA:KK wr ((wr.alloc (.cells (madeCells #[.int .i64 0] n) 3)).alloc (.cells #[.slice (some ⟨wr.heap.size,0,none⟩) n n] 86)):=fun t _ _ _ k c hc=>alloc_blk _ (alloc_blk _ hc)
   have hbs:=V.b.size
   go_wp2_with fail
   refine start_ (n:=14) (S:=fun w'=>w'.cell? ⟨kx,4,none⟩=some vv/\w'.cell? ⟨kp,1,none⟩=some (.int .i64 n)) (ds:=[13]) #[false,false,false,false,false,false,false,false,false,false,false,false,false,false] (by kernel_rfl) rfl rfl ⟨c4,p1⟩ (fun hHeld=>?_)
   refine pure_ (i:=0) (N:=some 47) (v:=?_) (a':=?_) #[true,false,false,false,false,false,false,false,false,false,false,false,false,false] rfl rfl (by kernel_rfl) (fun _ _ _ h=>h) (Or.inl ⟨by rfl,?_⟩) ?_ ?_
   rotate_left
   ·intro w'
    go_simp
    with_reducible rfl
   rotate_left
   ·simp only [Act.put,List.setIfInBounds_toArray,List.set_cons_zero,List.set_cons_succ,i64_w,i32_w]
    rfl
   refine pure_ (i:=1) (N:=some 48) (v:=?_) (a':=?_) #[true,true,false,false,false,false,false,false,false,false,false,false,false,false] rfl rfl (by kernel_rfl) (fun _ _ _ h=>h) (Or.inl ⟨by rfl,?_⟩) ?_ ?_
   rotate_left
   ·intro w'
    go_simp
    with_reducible rfl
   rotate_left
   ·simp only [Act.put,List.setIfInBounds_toArray,List.set_cons_zero,List.set_cons_succ,i64_w,i32_w]
    rfl
   refine pure_ (i:=2) (N:=some 49) (v:=?_) (a':=?_) #[true,true,true,false,false,false,false,false,false,false,false,false,false,false] rfl rfl (by kernel_rfl) (fun _ _ _ h=>h) (Or.inl ⟨by rfl,?_⟩) ?_ ?_
   rotate_left
   ·intro w'
    go_simp
    with_reducible rfl
   rotate_left
   ·simp only [Act.put,List.setIfInBounds_toArray,List.set_cons_zero,List.set_cons_succ,i64_w,i32_w]
    rfl
   refine pure_ (i:=3) (N:=some 50) (v:=?_) (a':=?_) #[true,true,true,true,false,false,false,false,false,false,false,false,false,false] rfl rfl (by kernel_rfl) (fun _ _ _ h=>h) (Or.inl ⟨by rfl,?_⟩) ?_ ?_
   rotate_left
   ·intro w'
    go_simp
    with_reducible rfl
   rotate_left
   ·simp only [Act.put,List.setIfInBounds_toArray,List.set_cons_zero,List.set_cons_succ,i64_w,i32_w]
    rfl
   refine pure_ (i:=5) (N:=some 52) (v:=?_) (a':=?_) #[true,true,true,true,false,true,false,false,false,false,false,false,false,false] rfl rfl (by kernel_rfl) (fun _ _ _ h=>h) (Or.inl ⟨by rfl,?_⟩) ?_ ?_
   rotate_left
   ·intro w'
    go_simp
    with_reducible rfl
   rotate_left
   ·simp only [Act.put,List.setIfInBounds_toArray,List.set_cons_zero,List.set_cons_succ,i64_w,i32_w]
    rfl
   refine pure_ (i:=6) (N:=some 53) (v:=?_) (a':=?_) #[true,true,true,true,false,true,true,false,false,false,false,false,false,false] rfl rfl (by kernel_rfl) (fun _ _ _ h=>h) (Or.inl ⟨by rfl,?_⟩) ?_ ?_
   rotate_left
   ·intro w'
    go_simp
    with_reducible rfl
   rotate_left
   ·simp only [Act.put,List.setIfInBounds_toArray,List.set_cons_zero,List.set_cons_succ,i64_w,i32_w]
    rfl
   refine take_ (i:=4) (N:=some 51) (v:=?_) (a':=?_) #[true,true,true,true,true,true,true,false,false,false,false,false,false,false] rfl rfl (by kernel_rfl) (fun _ _ _ h=>h) (Or.inl ⟨by rfl,?_⟩) hHeld ?_ ?_
   rotate_left
   ·rintro w' ⟨s0,s1⟩
    go_simp
    with_reducible rfl
   rotate_left
   ·simp only [Act.put,List.setIfInBounds_toArray,List.set_cons_zero,List.set_cons_succ,i64_w,i32_w]
    rfl
   refine take_ (i:=7) (N:=some 54) (v:=?_) (a':=?_) #[true,true,true,true,true,true,true,true,false,false,false,false,false,false] rfl rfl (by kernel_rfl) (fun _ _ _ h=>h) (Or.inl ⟨by rfl,?_⟩) hHeld ?_ ?_
   rotate_left
   ·rintro w' ⟨s0,s1⟩
    go_simp
    with_reducible rfl
   rotate_left
   ·simp only [Act.put,List.setIfInBounds_toArray,List.set_cons_zero,List.set_cons_succ,i64_w,i32_w]
    rfl
   refine one_ (i:=8) (N:=some 55) #[true,true,true,true,true,true,true,true,true,false,false,false,false,false] rfl rfl (by kernel_rfl) (by decide) (fun K hK=>?_)
   go_simp
   refine hK.out _ _ ⟨alloc_cell _ c4,alloc_cell _ p1⟩ (fun hHeld=>?_)
   clear hK K
   refine one_ (i:=9) (N:=some 56) #[true,true,true,true,true,true,true,true,true,true,false,false,false,false] rfl rfl (by kernel_rfl) (by decide) (fun K hK=>?_)
   go_simp
   refine hK.out _ _ ⟨alloc_cell _ (alloc_cell _ c4),alloc_cell _ (alloc_cell _ p1)⟩ (fun hHeld=>?_)
   clear hK K
   refine one_ (i:=10) (N:=some 57) #[true,true,true,true,true,true,true,true,true,true,true,false,false,false] rfl rfl (by kernel_rfl) (by decide) (fun K hK=>?_)
   refine step_append_lies _ (by rfl) (.tmp 51) (.tmp 56) _ (by rfl) w.heap.size 86 j1 _ 1 24 Tryz.underlying28 hj1 kz0 kz1 kz2 rfl (by omega) vv i cs (by rfl) hA.drew.vo
    ⟨wr.heap.size+1,0,none⟩ 1 1 [.slice (some ⟨wr.heap.size,0,none⟩) n n] (by rfl) (by rfl) (World.news_of_block (cs:= #[.slice (some ⟨wr.heap.size,0,none⟩) n n]) (t:=86) (fr:=(0,0)) (alloc_at wr _ _)) (by simp [Value.oneCell'])
    (by omega) (by unfold maxLen;omega) (by omega) (by simp;omega) (wr.heap.size+1+1) (by simp) ?_
   intro gg cap W1 hown hgrow hat hlt
   obtain⟨hN,c4_7,f4_7,hKK⟩:=VrB.add hA.drew hv.drew hown hgrow
   rw [hkxC] at c4_7 f4_7
   have p1_7:W1.cell? ⟨kp,1,none⟩=some (.int .i64 n):=by rw [<-show p.n=(n:Int) from HPN];exact (RN.kk (hKA.trans (KK.undrew fun t h1 h2 h3=>Keeps.grown hgrow fun k hk=>by obtain⟨c,hc⟩:=own_type hA.drew.vo hk;exact⟨c,_,hc,h2⟩))).P.cells.2.1
   refine hK.out _ _ ⟨c4_7,p1_7⟩ (fun hHeld=>?_)
   clear hK K
   refine norm_ (a':=?_) ?_ ?_
   rotate_left
   ·show Act.put _ (some 57) _=_
    simp only [Act.put,List.setIfInBounds_toArray,List.set_cons_zero,List.set_cons_succ,i64_w,i32_w]
    rfl
   refine pure_ (i:=11) (N:=some 58) (v:=?_) (a':=?_) #[true,true,true,true,true,true,true,true,true,true,true,true,false,false] rfl rfl (by kernel_rfl) (fun _ _ _ h=>h) (Or.inl ⟨by rfl,?_⟩) ?_ ?_
   rotate_left
   ·intro w'
    go_simp
    with_reducible rfl
   rotate_left
   ·simp only [Act.put,List.setIfInBounds_toArray,List.set_cons_zero,List.set_cons_succ,i64_w,i32_w]
    rfl
   refine pure_ (i:=12) (N:=some 59) (v:=?_) (a':=?_) #[true,true,true,true,true,true,true,true,true,true,true,true,true,false] rfl rfl (by kernel_rfl) (fun _ _ _ h=>h) (Or.inl ⟨by rfl,?_⟩) ?_ ?_
   rotate_left
   ·intro w'
    go_simp
    with_reducible rfl
   rotate_left
   ·simp only [Act.put,List.setIfInBounds_toArray,List.set_cons_zero,List.set_cons_succ,i64_w,i32_w]
    rfl
   refine last_ (i:=13) (N:=none) #[true,true,true,true,true,true,true,true,true,true,true,true,true,true] rfl rfl (by kernel_rfl) (by decide) (fun K hK=>?_)
   go_simp
   refine hK.out _ _ ?_
   clear hK K
   refine done_ (by kernel_rfl) ?_
   have HN:Hid (RnB (W1.setCell ⟨kx,4,none⟩ (.slice (some ⟨gg,0,none⟩) (i+1) cap)) kp kf p Va Ab vc cb/\∃ vv cs,VrB w (W1.setCell ⟨kx,4,none⟩ (.slice (some ⟨gg,0,none⟩) (i+1) cap)) C (i+1) vv cs):=Lib.hid (by
    rw [hkxC] at hN hKK
    exact⟨RN.kk (hKA.trans (KK.undrew hKK)),_,_,hN⟩)
   clear hHeld hN hKK hown hgrow hat p1_7 c4_7 f4_7 hA hv hKA V RN hkxC hnC c4 p0 p1 p2 p3
   go_wp2_with fail
   go_roundg k1
   case measure=>omega
   case rel=>exact⟨i+1,by simp,hgk,by omega,HN⟩
  ·have hie:i=p.vars.length:=by omega
   have t1:decide ((i:Int)<(p.vars.length:Int))=false:=decide_eq_false (by omega)
   subst hie
   have hnvC:C.nv=p.vars.length:=by rw [show C=_ from HC]
   have hqC:C.q=p.q:=by rw [show C=_ from HC]
   have htC:C.tape=tape:=by rw [show C=_ from HC]
   have htl:tape.length<=4096:=(show Al.InOk p ins tape from HIO).tape
   have HV:RnB wr kp kf p Va Ab vc cb/\XL w wr C (rs0 tape (Al.Vof (List.replicate p.vars.length (List.replicate n 0)))) wr.heap.size:=by
    have h:=VrB.done (by rw [hnvC];exact V)
    rw [htC] at h
    have h2:=h.congr (V:=Al.Vof (List.replicate p.vars.length (List.replicate n 0))) (fun i hi j hj=>by rw [vof_zero _ _ i (by omega) j (by omega)];rfl)
    refine⟨RN,⟨⟨_,_,_,_,h2,h2.bnd⟩,Nat.zero_le _,Nat.le_refl 0,Nat.zero_le _,fun i hi j hj=>?_⟩⟩
    show 0<=Al.Vof _ i j/\Al.Vof _ i j<C.q
    rw [vof_zero _ _ i (by omega) j (by omega)]
    omega
   have hb5:=V.b
   have HKi:=ref_kinds (w:=wr) (q:=p.q) (n:=n) (vc:=vc) Ab p.body.length cb (Kd.C_below (show PLies w p Va Ab vc cb from HP).v hb5) (by omega) 1
   obtain⟨K,hKe⟩:∃ K,K=Al.kindsOf p.vars 1:=⟨_,rfl⟩
   rw [<-hKe] at HKi
   have hKl:K.length=ins.length:=by rw [hKe];exact (show Al.InOk p ins tape from HIO).len.symm
   have hKr:∀ i (h:i<K.length),0<=K[i]/\K[i]<p.vars.length:=fun i h=>Al.kindsOf_range (k:=1) (by rw [<-hKe];exact List.getElem_mem h)
   have hil14:K.length<=12:=by have:=kindsFrom_len p.vars 1 0;rw [hKe];unfold Al.kindsOf;omega
   have hV0:Al.V0 p ins=Al.setIns (List.replicate p.vars.length (List.replicate n 0)) K ins:=by unfold Al.V0;rw [hKe,show p.n=(n:Int) from HPN];rfl
   replace HV:=Lib.hid HV
   replace hV0:=Lib.hid hV0
   replace hKr:=Lib.hid hKr
   replace hKe:=Lib.hid hKe
   replace hqC:=Lib.hid hqC
   replace htC:=Lib.hid htC
   replace hnC:=Lib.hid hnC
   replace hnvC:=Lib.hid hnvC
   replace hkxC:=Lib.hid hkxC
   replace hKl:=Lib.hid hKl
   clear V RN c4
   go_upto_region 12 with (first
    |(go_at_call 33;((with_reducible refine HKi.mono ?_);rintro e w5 ⟨v13,rfl,hK1,hb6⟩)))
   obtain⟨ka,kc,rfl⟩:=own_slice hK1
   have HH:Hid (∃ Lc:List (List Int),Al.V0 p ins=Al.setIns Lc (K.drop 0) (ins.drop 0)/\Lc.length=p.vars.length/\RnB w5 kp kf p Va Ab vc cb/\(∃ N,XL w w5 C (rs0 tape (Al.Vof Lc)) N)/\w5.ownsRow wr.heap.size 3 1 (.slice ka K.length kc) K.length (intsV K)):=Lib.hid
    ⟨_,hV0,by simp,(show RnB wr kp kf p Va Ab vc cb/\_ from HV).1.kk (KK.below hb6),⟨_,(show RnB wr kp kf p Va Ab vc cb/\_ from HV).2.below hb6⟩,hK1⟩
   obtain⟨wo,rfl⟩:∃ wo:World,wo=wr:=⟨_,rfl⟩
   clear HV hK1 hb6 HKi p0 p1 p2 p3
   go_wp2_with fail
   go_loopg [14] (K.length+1) (fun gk v14 w'=>∃ i:Nat,v14= .int .i64 i/\i+gk=K.length+1/\i<=K.length/\Hid (∃ Lc:List (List Int),Al.V0 p ins=Al.setIns Lc (K.drop i) (ins.drop i)/\Lc.length=p.vars.length/\RnB w' kp kf p Va Ab vc cb/\(∃ N,XL w w' C (rs0 tape (Al.Vof Lc)) N)/\w'.ownsRow wo.heap.size 3 1 (.slice ka K.length kc) K.length (intsV K)))
   case atStart=>exact⟨0,rfl,by omega,by omega,HH⟩
   case round=>
    obtain⟨i,rfl,hg2,hi3,HR⟩:=hrel
    obtain⟨Lc,hL0,hLl,RN,⟨N,hX⟩,hok⟩:=show ∃ Lc:List (List Int),Al.V0 p ins=Al.setIns Lc (K.drop i) (ins.drop i)/\Lc.length=p.vars.length/\RnB wr kp kf p Va Ab vc cb/\(∃ N,XL w wr C (rs0 tape (Al.Vof Lc)) N)/\wr.ownsRow wo.heap.size 3 1 (.slice ka K.length kc) K.length (intsV K) from HR
    clear HH HR
    obtain⟨k2,rfl⟩:∃ k2,gk=k2+1:=⟨gk - 1,by omega⟩
    by_cases hil:i<K.length
    ·have hii:i<ins.length:=by have:=show K.length=ins.length from hKl;omega
     obtain⟨adI,A0,c0,hIa,d0,l0,g0⟩:=at_L4 (show Kd.C (Kd.slice 3 (Kd.int .i64)) w Ia ins.length ins from HI) (i:Int) (by omega) (by omega)
     simp only [Int.toNat_natCast] at d0
     have hx0:rd_L4 ins (i:Int)=ins[i]:=by unfold rd_L4;simp [List.getD_eq_getElem?_getD,hii]
     rw [hx0] at d0 l0 g0
     have hv:=(show Al.InOk p ins tape from HIO).vec ins[i] (List.getElem_mem hii)
     rw [List.drop_eq_getElem_cons hil,List.drop_eq_getElem_cons hii] at hL0
     unfold Al.setIns at hL0
     obtain⟨a,ha⟩:∃ a,a=ins[i]:=⟨_,rfl⟩
     rw [<-ha] at d0 l0 g0 hL0 hv
     have hal:a.length=n:=by have:=hv.1;have:=show p.n=(n:Int) from HPN;omega
     obtain⟨kv,hkv,hkvl⟩:∃ kv:Nat,K[i]=kv/\kv<p.vars.length:=⟨K[i].toNat,by have:=(show ∀ i (h:i<K.length),0<=K[i]/\K[i]<p.vars.length from hKr) i hil;omega,by have:=(show ∀ i (h:i<K.length),0<=K[i]/\K[i]<p.vars.length from hKr) i hil;omega⟩
     rw [hkv,Int.toNat_natCast] at hL0
     obtain⟨gi,hka,dk⟩:=ints_get (own_ints hok) hil
     rw [hkv] at dk
     have hbw:=hX.h.b
     have hV:=vec_of (Kd.C_below g0 (below_drew' hbw)) hal hn0
     have hnv1:C.nv=p.vars.length:=hnvC
     have hkx1:C.kx=kx:=hkxC
     obtain⟨g4,cap4,c4,hg4,hg4l,hg4n,cc4,hc4⟩:=hX.vv (by omega)
     rw [hnv1,hkx1] at c4
     rw [hkx1] at hg4n
     have HC:=ref_ints c0 hV hnn1
     rw [hal] at d0
     have dI:=cell_since hbw d0
     have hadb:(adI.add i).block<w.heap.size:=cell_lt d0
     subst hIa hka
     have n2:g4≠gi:=fun e=>by subst e;obtain⟨c1,h1⟩:=own_type hok rfl;rw [hc4] at h1;cases h1
     have n3:g4≠(adI.add i).block:=by omega
     have i0:(0:Int)<=(i:Int):=by omega
     have i1:(i:Int)<(K.length:Int):=by omega
     have i2:decide ((i:Int)<(K.length:Int))=true:=decide_eq_true i1
     have i3:(i:Int)<(ins.length:Int):=by omega
     have v0:(0:Int)<=(kv:Int):=by omega
     have v1:(kv:Int)<(p.vars.length:Int):=by omega
     have hvr:Hid (∀ j,j<C.n->0<=a.getD j 0/\a.getD j 0<C.q):=Lib.hid (fun j hj=>by
      have e1:C.n=n:=hnC
      have e2:C.q=p.q:=hqC
      rw [e2,List.getD_eq_getElem?_getD,List.getElem?_eq_getElem (by omega)]
      exact hv.2 _ (List.getElem_mem _))
     have hbsz:=hbw.size
     have hcv:Hid (∀ (W:World) (v:Value),W.ownsRow wr.drew.heap.size 3 1 v n (vecV n fun j=>a.getD j 0)->W.ownsRow w.heap.size 3 1 v C.n (vecV C.n fun j=>a.getD j 0)):=Lib.hid (fun W v h=>by rw [show C.n=n from hnC];exact own_lower h hbsz)
     have hkd:Hid (kv<C.nv):=Lib.hid (by omega)
     have hgk2:Hid (i+1+k2=K.length+1):=Lib.hid (by omega)
     have HX:=Lib.hid hX
     have HRN:=Lib.hid RN
     have HOK:=Lib.hid hok
     have HL0:=Lib.hid hL0
     have hLl':=Lib.hid hLl
     have hkvl':=Lib.hid hkvl
     clear hX RN hok hL0 hLl hV d0 l0 g0 hv ha hx0 hal hbw hc4 hkx1 hnv1 hkvl hkv
     go_wp2_with fail
     go_region_held3 (fun w'=>w'.cell? ⟨kx,4,none⟩=some (.slice (some ⟨g4,0,none⟩) p.vars.length cap4)/\w'.cell? ⟨gi,i,none⟩=some (.int .i64 kv)/\w'.cell? (adI.add i)=some (.slice A0 n c0)) (first|(refine⟨?_,?_,?_⟩<;> assumption)|(refine⟨?_,?_,?_⟩<;> first|(rw [World.cell?_setCell_far _ _ _ _ hg4n];assumption)|(rw [World.cell?_setCell_far _ _ _ _ n2];assumption)|(rw [World.cell?_setCell_far _ _ _ _ n3];assumption))) (first
      |(go_at_call 34;(refine HC.mono ?_;rintro e w7 ⟨v7,rfl,hown7,hb7⟩;replace hb7:=undrew hb7;have c4_7:=cell_since hb7 c4;have dk7:=cell_since hb7 dk;have dI7:=cell_since hb7 dI;have X7:=(show XL w wr C _ N from HX).below hb7;have R7:=(show RnB wr kp kf p Va Ab vc cb from HRN).kk (KK.below hb7);have own7:=own_of (show wr.ownsRow wo.heap.size 3 1 (.slice (some ⟨gi,0,none⟩) K.length kc) K.length (intsV K) from HOK) fun k hk=>hb7.block k ((show wr.ownsRow wo.heap.size 3 1 (.slice (some ⟨gi,0,none⟩) K.length kc) K.length (intsV K) from HOK).lt k hk).2;obtain⟨g5,cap5,c5,⟨u5,e5⟩,e6,hne5,X8,K8⟩:=X7.vec hkd (hcv.out _ _ hown7) hvr;rw [show C.kx=kx from hkxC,c4_7] at c5;(obtain⟨rfl, -, -⟩:g4=g5/\p.vars.length=C.nv/\cap4=cap5:=by simpa using c5);have X8:=Lib.hid X8;have R8:=Lib.hid (R7.kk K8);have own8:=Lib.hid (KK.own K8 own7);obtain⟨a7,cc7,rfl⟩:=own_slice hown7;clear K8 X7 R7 own7 hb7 hown7 c5)))
     have HN:Hid (∃ Lc:List (List Int),Al.V0 p ins=Al.setIns Lc (K.drop (i+1)) (ins.drop (i+1))/\Lc.length=p.vars.length/\RnB (w7.setCell ⟨g4,kv,none⟩ (.slice a7 n cc7)) kp kf p Va Ab vc cb/\(∃ N,XL w (w7.setCell ⟨g4,kv,none⟩ (.slice a7 n cc7)) C (rs0 tape (Al.Vof Lc)) N)/\(w7.setCell ⟨g4,kv,none⟩ (.slice a7 n cc7)).ownsRow wo.heap.size 3 1 (.slice (some ⟨gi,0,none⟩) K.length kc) K.length (intsV K)):=Lib.hid
      ⟨Lc.set kv a,HL0,by rw [List.length_set];exact hLl',R8,⟨_,by rw [vof_set (by rw [show Lc.length=_ from hLl'];exact hkvl')];exact X8⟩,own8⟩
     clear c4_7 dk7 dI7 e5 e6 X8 R8 own8 c4 dk dI
     go_wp2_with fail
     go_roundg k2
     case measure=>omega
     case rel=>exact⟨i+1,by simp,hgk2,by omega,HN⟩
    ·have hie:i=K.length:=by omega
     have t1:decide ((i:Int)<(K.length:Int))=false:=decide_eq_false (by omega)
     have hV:Al.V0 p ins=Lc:=by rw [hL0,hie,List.drop_length];unfold Al.setIns;rfl
     rw [<-hV] at hX
     have HRN:=Lib.hid RN
     have HX:=Lib.hid hX
     have hFi:=show Al.Fine p from HFI
     have HRE:RunE w C (Al.envOf p (Al.bitsOf p.q)):=by
      have hpr:=hFi.prime
      have hq8:p.q<=8380417:=by simp [Al.isPrime] at hpr;omega
      have hwb:=wid_bits hpr
      have eq:(Al.envOf p (Al.bitsOf p.q)).q=p.q.toNat:=rfl
      have en:(Al.envOf p (Al.bitsOf p.q)).n=p.n.toNat:=rfl
      have ev:(Al.envOf p (Al.bitsOf p.q)).nv=p.vars.length:=rfl
      have eb:(Al.envOf p (Al.bitsOf p.q)).bits=Al.bitsOf p.q:=rfl
      have h1:C.q=p.q:=hqC
      have h2:C.n=n:=hnC
      have h3:C.nv=p.vars.length:=hnvC
      have h4:p.n=(n:Int):=HPN
      have h5:C.tape=tape:=htC
      have h6:C.Ta=Ta:=by rw [show C=_ from HC]
      have h7:C.fuel=F:=by rw [show C=_ from HC]
      refine⟨Al.env_ok hFi,by rw [eq];omega,by rw [eq,h1];omega,by rw [en,h2];omega,by rw [ev,h3],?_,by rw [h7];exact hf,by rw [h5,h6];exact HTT,by rw [h5];exact Htt,by rw [h5];exact htl⟩
      rw [eq,eb,<-hwb.1]
      congr 2
      omega
     have HAll:=run_all HRE p.body Ab cb (show PLies w p Va Ab vc cb from HP).b (Al.good_prog hFi _) (by have:=hFi.flat;omega) wr _ N hX
     rw [show C.kx=kx from hkxC,show C.fuel=F by rw [show C=_ from HC]] at HAll
     obtain⟨p0,p1,p2,p3⟩:=RN.P.cells
     have hy2:y=Al.exL (Al.envOf p (Al.bitsOf p.q)) F p.body (rs0 tape (Al.Vof (Al.V0 p ins))):=HY
     rw [<-hy2] at HAll
     clear hok hL0 hLl hV hX hy2 RN HRE hFi
     cases hov:y.over with
     |true=>
      go_wp2_with (first
       |(go_at_call 35;((with_reducible refine HAll.mono ?_);rintro e w8 ⟨rfl,⟨N8,hX8⟩,hK8⟩;have R8:=(show RnB wr kp kf p Va Ab vc cb from HRN).kk hK8;obtain⟨⟨vv,ve,cs,es,hW8,hB8⟩,hL8⟩:=hX8;obtain⟨ae,ce,rfl⟩:=own_slice hW8.eo;have XB:=hW8.blk;have hkx1:C.kx=kx:=hkxC;have c12:=hW8.c 12;have x7:=hW8.c 7;have x8:=hW8.c 8;have x9:=hW8.c 9;have x10:=hW8.c 10;have x11:=hW8.c 11;rw [hkx1] at c12 x7 x8 x9 x10 x11 XB;replace c12:w8.cell? ⟨kx,12,none⟩=some (.bool true):=c12.trans (by rw [<-hov];rfl);replace x7:w8.cell? ⟨kx,7,none⟩=some (.int .i64 y.code):=x7.trans rfl;replace x8:w8.cell? ⟨kx,8,none⟩=some (.slice none 0 0):=x8.trans rfl;replace x9:w8.cell? ⟨kx,9,none⟩=some (.slice ae y.evs.length ce):=x9.trans rfl;replace x10:w8.cell? ⟨kx,10,none⟩=some (.int .i64 y.steps):=x10.trans rfl;replace x11:w8.cell? ⟨kx,11,none⟩=some (.int .i64 y.used):=x11.trans rfl;have HBB:=Lib.hid hW8.b;have hW8:=Lib.hid hW8;have R8:=Lib.hid R8;clear hK8 hB8 hL8 hkx1 HAll)))
      have R8':=show RnB w8 kp kf p Va Ab vc cb from R8
      have hkx8:kp+1≠kx:=blk_ne R8'.r8 XB (by decide)
      have hkx9:kp+1+1≠kx:=blk_ne R8'.r9 XB (by decide)
      have hkf8:kp+1≠kf:=by omega
      have hkf9:kp+1+1≠kf:=by omega
      have y0:w8.cell? ⟨kf,0,none⟩=some (.int .i64 0):=(cell_blk R8'.rf _).trans rfl
      have y1:w8.cell? ⟨kf,1,none⟩=some (.bool false):=(cell_blk R8'.rf _).trans rfl
      have y2:w8.cell? ⟨kf,2,none⟩=some (.int .i64 0):=(cell_blk R8'.rf _).trans rfl
      have z0:w8.cell? ⟨kp+1,0,none⟩=some (.int .i64 0):=(cell_blk R8'.r8 _).trans rfl
      have z1:w8.cell? ⟨kp+1,1,none⟩=some (.slice none 0 0):=(cell_blk R8'.r8 _).trans rfl
      have z2:w8.cell? ⟨kp+1,2,none⟩=some (.slice none 0 0):=(cell_blk R8'.r8 _).trans rfl
      have z3:w8.cell? ⟨kp+1,3,none⟩=some (.int .i64 0):=(cell_blk R8'.r8 _).trans rfl
      have z4:w8.cell? ⟨kp+1,4,none⟩=some (.int .i64 0):=(cell_blk R8'.r8 _).trans rfl
      have z5:w8.cell? ⟨kp+1+1,0,none⟩=some (.int .i64 0):=(cell_blk R8'.r9 _).trans rfl
      have z6:w8.cell? ⟨kp+1+1,1,none⟩=some (.bool false):=(cell_blk R8'.r9 _).trans rfl
      have z7:w8.cell? ⟨kp+1+1,2,none⟩=some (.int .i64 0):=(cell_blk R8'.r9 _).trans rfl
      have v0:=frozen_blk R8'.r8 0
      have v1:=frozen_blk R8'.r8 1
      have v2:=frozen_blk R8'.r8 2
      have v3:=frozen_blk R8'.r8 3
      have v4:=frozen_blk R8'.r8 4
      have v5:=frozen_blk R8'.r9 0
      have v6:=frozen_blk R8'.r9 1
      have v7:=frozen_blk R8'.r9 2
      have XBH:=Lib.hid XB
      clear R8' XB
      go_wp2_with fail
      refine start_ (n:=7) (S:=fun w'=>w'.cell? ⟨kx,7,none⟩=some (.int .i64 y.code)/\w'.cell? ⟨kx,8,none⟩=some (.slice none 0 0)/\w'.cell? ⟨kx,9,none⟩=some (.slice ae y.evs.length ce)/\w'.cell? ⟨kx,10,none⟩=some (.int .i64 y.steps)/\w'.cell? ⟨kx,11,none⟩=some (.int .i64 y.used)/\w'.cell? ⟨kf,0,none⟩=some (.int .i64 0)/\w'.cell? ⟨kf,1,none⟩=some (.bool false)/\w'.cell? ⟨kf,2,none⟩=some (.int .i64 0)) (ds:=[6]) #[false,false,false,false,false,false,false] (by kernel_rfl) rfl rfl ⟨x7,x8,x9,x10,x11,y0,y1,y2⟩ (fun hHeld=>?_)
      refine pure_ (i:=0) (N:=some 120) (v:=?_) (a':=?_) #[true,false,false,false,false,false,false] rfl rfl (by kernel_rfl) (fun _ _ _ h=>h) (Or.inl ⟨by rfl,?_⟩) ?_ ?_
      rotate_left
      ·intro w'
       go_simp
       with_reducible rfl
      rotate_left
      ·simp only [Act.put,List.setIfInBounds_toArray,List.set_cons_zero,List.set_cons_succ,i64_w,i32_w]
       rfl
      refine pure_ (i:=1) (N:=some 121) (v:=?_) (a':=?_) #[true,true,false,false,false,false,false] rfl rfl (by kernel_rfl) (fun _ _ _ h=>h) (Or.inl ⟨by rfl,?_⟩) ?_ ?_
      rotate_left
      ·intro w'
       go_simp
       with_reducible rfl
      rotate_left
      ·simp only [Act.put,List.setIfInBounds_toArray,List.set_cons_zero,List.set_cons_succ,i64_w,i32_w]
       rfl
      refine pure_ (i:=2) (N:=some 122) (v:=?_) (a':=?_) #[true,true,true,false,false,false,false] rfl rfl (by kernel_rfl) (fun _ _ _ h=>h) (Or.inl ⟨by rfl,?_⟩) ?_ ?_
      rotate_left
      ·intro w'
       go_simp
       with_reducible rfl
      rotate_left
      ·simp only [Act.put,List.setIfInBounds_toArray,List.set_cons_zero,List.set_cons_succ,i64_w,i32_w]
       rfl
      refine take_ (i:=3) (N:=some 123) (v:=?_) (a':=?_) #[true,true,true,true,false,false,false] rfl rfl (by kernel_rfl) (fun _ _ _ h=>h) (Or.inl ⟨by rfl,?_⟩) hHeld ?_ ?_
      rotate_left
      ·rintro w' ⟨s0,s1,s2,s3,s4,s5,s6,s7⟩
       go_simp
       with_reducible rfl
      rotate_left
      ·simp only [Act.put,List.setIfInBounds_toArray,List.set_cons_zero,List.set_cons_succ,i64_w,i32_w]
       rfl
      refine take_ (i:=4) (N:=some 124) (v:=?_) (a':=?_) #[true,true,true,true,true,false,false] rfl rfl (by kernel_rfl) (fun _ _ _ h=>h) (Or.inl ⟨by rfl,?_⟩) hHeld ?_ ?_
      rotate_left
      ·rintro w' ⟨s0,s1,s2,s3,s4,s5,s6,s7⟩
       go_simp
       with_reducible rfl
      rotate_left
      ·simp only [Act.put,List.setIfInBounds_toArray,List.set_cons_zero,List.set_cons_succ,i64_w,i32_w]
       rfl
      refine one_ (i:=5) (N:=none) #[true,true,true,true,true,true,false] rfl rfl (by kernel_rfl) (by decide) (fun K hK=>?_)
      refine skip_ (w1:=?_) (by rfl) rfl ?_ ?_
      rotate_left
      ·go_simp
       rfl
      refine hK.out _ _ ⟨cell_set5d hkx8 x7 _ _ _ _ _,cell_set5d hkx8 x8 _ _ _ _ _,cell_set5d hkx8 x9 _ _ _ _ _,cell_set5d hkx8 x10 _ _ _ _ _,cell_set5d hkx8 x11 _ _ _ _ _,cell_set5d hkf8 y0 _ _ _ _ _,cell_set5d hkf8 y1 _ _ _ _ _,cell_set5d hkf8 y2 _ _ _ _ _⟩ (fun hHeld=>?_)
      clear hK K
      refine last_ (i:=6) (N:=none) #[true,true,true,true,true,true,true] rfl rfl (by kernel_rfl) (by decide) (fun K hK=>?_)
      go_simp
      refine hK.out _ _ ?_
      clear hK K
      refine done_ (by kernel_rfl) ?_
      have hbk:w.heap.size<=kp:=by rw [show kp=_ from HKP];exact Nat.le_refl _
      refine gen_world (Q:=fun W=>Exit.then _ _ _ _ W) _ (fun W=>W.heap[kp+1]?=some (.cells #[.int .i64 y.code,(.slice none 0 0),.slice ae y.evs.length ce,.int .i64 y.steps,.int .i64 y.used] 34 (0,0))/\W.heap[kp+1+1]?=some (.cells #[.int .i64 0,.bool false,.int .i64 0] 36 (0,0))/\Below w.heap.size w W/\∀ t,34≠t->36≠t->Keeps w8 W t) (run_fin (show RnB w8 kp kf p Va Ab vc cb from R8).r8 (show RnB w8 kp kf p Va Ab vc cb from R8).r9 hbk (show Below w.heap.size w w8 from HBB) _ _ _ _ _ _ _ _) ?_
      clear hHeld x7 x8 x9 x10 x11 y0 y1 y2 z0 z1 z2 z3 z4 z5 z6 z7 v0 v1 v2 v3 v4 v5 v6 v7
      rintro W9 ⟨h8,h9,hb9,hk9⟩
      have z0:W9.cell? ⟨kp+1,0,none⟩=some (.int .i64 y.code):=(cell_blk h8 _).trans rfl
      have z1:W9.cell? ⟨kp+1,1,none⟩=some (.slice none 0 0):=(cell_blk h8 _).trans rfl
      have z2:W9.cell? ⟨kp+1,2,none⟩=some (.slice ae y.evs.length ce):=(cell_blk h8 _).trans rfl
      have z3:W9.cell? ⟨kp+1,3,none⟩=some (.int .i64 y.steps):=(cell_blk h8 _).trans rfl
      have z4:W9.cell? ⟨kp+1,4,none⟩=some (.int .i64 y.used):=(cell_blk h8 _).trans rfl
      have z5:W9.cell? ⟨kp+1+1,0,none⟩=some (.int .i64 0):=(cell_blk h9 _).trans rfl
      have z6:W9.cell? ⟨kp+1+1,1,none⟩=some (.bool false):=(cell_blk h9 _).trans rfl
      have z7:W9.cell? ⟨kp+1+1,2,none⟩=some (.int .i64 0):=(cell_blk h9 _).trans rfl
      have hb9:=Lib.hid hb9
      have hk9:=Lib.hid hk9
      clear h8 h9
      go_wp2_with fail
      refine bodyPost_ret (v:= .tuple #[.agg #[.int .i64 y.code,(.slice none 0 0),.slice ae y.evs.length ce,.int .i64 y.steps,.int .i64 y.used],.agg #[.int .i64 0,.bool false,.int .i64 0]]) (by simp [results,Tryz.results9,go_sem,z0,z1,z2,z3,z4,z5,z6,z7]) rfl ?_
      have hW:=show XW w w8 C y _ (.slice ae y.evs.length ce) cs es from hW8
      have hkk:=show ∀ t,34≠t->36≠t->Keeps w8 W9 t from hk9
      exact⟨_,_,es,rfl,⟨_,_,_,rfl⟩,own_keeps hW.eo (hkk _ (by decide) (by decide)),EvR.imp (fun v n xs h=>own_keeps h (hkk _ (by decide) (by decide))) hW.er,hb9,fun h=>by rw [hov] at h;cases h⟩
     |false=>
      obtain⟨M,hMe⟩:∃ M,M=Al.kindsOf p.vars 2:=⟨_,rfl⟩
      have hMr:∀ i (h:i<M.length),0<=M[i]/\M[i]<p.vars.length:=fun i h=>Al.kindsOf_range (k:=2) (by rw [<-hMe];exact List.getElem_mem h)
      have hMl:M.length<=12:=by have:=kindsFrom_len p.vars 2 0;rw [hMe];unfold Al.kindsOf;omega
      have HKo:=fun (W:World) (hb:Below w.heap.size w W)=>ref_kinds (w:=W) (q:=p.q) (n:=n) (vc:=vc) Ab p.body.length cb (Kd.C_below (show PLies w p Va Ab vc cb from HP).v hb) (by omega) 2
      simp only [<-hMe] at HKo
      replace hMr:=Lib.hid hMr
      replace hMe:=Lib.hid hMe
      go_wp2_with (first
       |(go_at_call 35;((with_reducible refine HAll.mono ?_);rintro e w8 ⟨rfl,⟨N8,hX8⟩,hK8⟩;clear p0 p1 p2 p3;have R8:=(show RnB wr kp kf p Va Ab vc cb from HRN).kk hK8;obtain⟨⟨vv,ve,cs,es,hW8,hB8⟩,hL8⟩:=hX8;have hkx1:C.kx=kx:=hkxC;have c12:=hW8.c 12;rw [hkx1] at c12;replace c12:w8.cell? ⟨kx,12,none⟩=some (.bool false):=c12.trans (by rw [<-hov];rfl);obtain⟨p0,p1,p2,p3⟩:=R8.P.cells;rw [show p.n=(n:Int) from HPN] at p1;have HK2:=HKo w8 hW8.b;have HBz:=hW8.b.size;have hW8:=Lib.hid hW8;have R8:=Lib.hid R8;clear hK8 hB8 hL8 hkx1 HAll HKo))
       |(go_at_call 33;((with_reducible refine HK2.mono ?_);rintro e w10 ⟨v15,rfl,hK1,hb10⟩;obtain⟨kb,kc2,rfl⟩:=own_slice hK1;have HO:Hid (RnB w10 kp kf p Va Ab vc cb/\∃ vv ov ve cs os es,OuB w w10 C y vv ov ve (.slice kb M.length kc2) cs os es M 0):=Lib.hid ⟨(show RnB w8 kp kf p Va Ab vc cb from R8).kk (KK.below hb10),_,_,_,_,_,_,OuB.of ((show XW w w8 C y vv ve cs es from hW8).below hb10) (own_lower hK1 HBz)⟩;clear HK2 hK1 hb10 c12 p0 p1 p2 p3 HBz hW8 R8)))
      go_loopg [16] (M.length+1) (fun gk v16 w'=>∃ i:Nat,v16= .int .i64 i/\i+gk=M.length+1/\i<=M.length/\Hid (RnB w' kp kf p Va Ab vc cb/\∃ vv ov ve cs os es,OuB w w' C y vv ov ve (.slice kb M.length kc2) cs os es M i))
      case atStart=>exact⟨0,rfl,by omega,by omega,HO⟩
      case round=>
       obtain⟨i,rfl,hg3,hi4,HR⟩:=hrel
       obtain⟨RN,vv,ov,ve,cs,os,es,O⟩:=show RnB wr kp kf p Va Ab vc cb/\∃ vv ov ve cs os es,OuB w wr C y vv ov ve (.slice kb M.length kc2) cs os es M i from HR
       clear HO HR
       obtain⟨k3,rfl⟩:∃ k3,gk=k3+1:=⟨gk - 1,by omega⟩
       have hkx1:C.kx=kx:=hkxC
       have hnv1:C.nv=p.vars.length:=hnvC
       have hn1:C.n=n:=hnC
       obtain⟨ao,co,rfl⟩:=own_slice O.oo
       by_cases hil:i<M.length
       ·obtain⟨kv,hkv,hkvl⟩:∃ kv:Nat,M[i]=kv/\kv<p.vars.length:=⟨M[i].toNat,by have:=(show ∀ i (h:i<M.length),0<=M[i]/\M[i]<p.vars.length from hMr) i hil;omega,by have:=(show ∀ i (h:i<M.length),0<=M[i]/\M[i]<p.vars.length from hMr) i hil;omega⟩
        obtain⟨gi,hka,dk⟩:=ints_get (own_ints O.ko) hil
        rw [hkv] at dk
        subst hka
        obtain⟨g4,cap4,hvv, -, -⟩:=O.vo.form (by omega)
        subst hvv
        obtain⟨v,hcv,hvo⟩:=O.vr kv (by omega)
        obtain⟨aw,cw,rfl⟩:=own_slice hvo
        rw [hn1] at hcv
        have hMk:M[i]?=some (kv:Int):=by rw [List.getElem?_eq_getElem hil,hkv]
        have c8:wr.cell? ⟨kx,8,none⟩=some (.slice ao i co):=by have h:=cell_blk O.blk 8;rw [hkx1] at h;exact h.trans rfl
        have c4:wr.cell? ⟨kx,4,none⟩=some (.slice (some ⟨g4,0,none⟩) p.vars.length cap4):=by have h:=cell_blk O.blk 4;rw [hkx1,hnv1] at h;exact h.trans rfl
        have dv:wr.cell? ⟨g4,kv,none⟩=some (.slice aw n cw):=(O.vo.cellAt kv (by omega)).trans hcv
        have hbs:=O.b.size
        have i0:(0:Int)<=(i:Int):=by omega
        have i1:(i:Int)<(M.length:Int):=by omega
        have i2:decide ((i:Int)<(M.length:Int))=true:=decide_eq_true i1
        have v0:(0:Int)<=(kv:Int):=by omega
        have v1:(kv:Int)<(p.vars.length:Int):=by omega
        have hgk3:Hid (i+1+k3=M.length+1):=Lib.hid (by omega)
        have hA:=O.alloc (.cells #[.slice aw n cw] 86)
        have hKA:KK wr (wr.alloc (.cells #[.slice aw n cw] 86)):=fun t _ _ _ k c hc=>alloc_blk _ hc
        replace hMk:=Lib.hid hMk
        go_wp2_with fail
        refine start_ (n:=22) (S:=fun w'=>w'.cell? ⟨kx,8,none⟩=some (.slice ao i co)/\w'.cell? ⟨kx,4,none⟩=some (.slice (some ⟨g4,0,none⟩) p.vars.length cap4)/\w'.cell? ⟨gi,i,none⟩=some (.int .i64 kv)/\w'.cell? ⟨g4,kv,none⟩=some (.slice aw n cw)) (ds:=[21]) #[false,false,false,false,false,false,false,false,false,false,false,false,false,false,false,false,false,false,false,false,false,false] (by kernel_rfl) rfl rfl ⟨c8,c4,dk,dv⟩ (fun hHeld=>?_)
        refine pure_ (i:=0) (N:=some 99) (v:=?_) (a':=?_) #[true,false,false,false,false,false,false,false,false,false,false,false,false,false,false,false,false,false,false,false,false,false] rfl rfl (by kernel_rfl) (fun _ _ _ h=>h) (Or.inl ⟨by rfl,?_⟩) ?_ ?_
        rotate_left
        ·intro w'
         go_simp
         with_reducible rfl
        rotate_left
        ·simp only [Act.put,List.setIfInBounds_toArray,List.set_cons_zero,List.set_cons_succ,i64_w,i32_w]
         rfl
        refine pure_ (i:=1) (N:=some 100) (v:=?_) (a':=?_) #[true,true,false,false,false,false,false,false,false,false,false,false,false,false,false,false,false,false,false,false,false,false] rfl rfl (by kernel_rfl) (fun _ _ _ h=>h) (Or.inl ⟨by rfl,?_⟩) ?_ ?_
        rotate_left
        ·intro w'
         go_simp
         with_reducible rfl
        rotate_left
        ·simp only [Act.put,List.setIfInBounds_toArray,List.set_cons_zero,List.set_cons_succ,i64_w,i32_w]
         rfl
        refine pure_ (i:=2) (N:=some 101) (v:=?_) (a':=?_) #[true,true,true,false,false,false,false,false,false,false,false,false,false,false,false,false,false,false,false,false,false,false] rfl rfl (by kernel_rfl) (fun _ _ _ h=>h) (Or.inl ⟨by rfl,?_⟩) ?_ ?_
        rotate_left
        ·intro w'
         go_simp
         with_reducible rfl
        rotate_left
        ·simp only [Act.put,List.setIfInBounds_toArray,List.set_cons_zero,List.set_cons_succ,i64_w,i32_w]
         rfl
        refine pure_ (i:=3) (N:=some 102) (v:=?_) (a':=?_) #[true,true,true,true,false,false,false,false,false,false,false,false,false,false,false,false,false,false,false,false,false,false] rfl rfl (by kernel_rfl) (fun _ _ _ h=>h) (Or.inl ⟨by rfl,?_⟩) ?_ ?_
        rotate_left
        ·intro w'
         go_simp
         with_reducible rfl
        rotate_left
        ·simp only [Act.put,List.setIfInBounds_toArray,List.set_cons_zero,List.set_cons_succ,i64_w,i32_w]
         rfl
        refine pure_ (i:=4) (N:=some 103) (v:=?_) (a':=?_) #[true,true,true,true,true,false,false,false,false,false,false,false,false,false,false,false,false,false,false,false,false,false] rfl rfl (by kernel_rfl) (fun _ _ _ h=>h) (Or.inl ⟨by rfl,?_⟩) ?_ ?_
        rotate_left
        ·intro w'
         go_simp
         with_reducible rfl
        rotate_left
        ·simp only [Act.put,List.setIfInBounds_toArray,List.set_cons_zero,List.set_cons_succ,i64_w,i32_w]
         rfl
        refine pure_ (i:=6) (N:=some 105) (v:=?_) (a':=?_) #[true,true,true,true,true,false,true,false,false,false,false,false,false,false,false,false,false,false,false,false,false,false] rfl rfl (by kernel_rfl) (fun _ _ _ h=>h) (Or.inl ⟨by rfl,?_⟩) ?_ ?_
        rotate_left
        ·intro w'
         go_simp
         with_reducible rfl
        rotate_left
        ·simp only [Act.put,List.setIfInBounds_toArray,List.set_cons_zero,List.set_cons_succ,i64_w,i32_w]
         rfl
        refine pure_ (i:=7) (N:=some 106) (v:=?_) (a':=?_) #[true,true,true,true,true,false,true,true,false,false,false,false,false,false,false,false,false,false,false,false,false,false] rfl rfl (by kernel_rfl) (fun _ _ _ h=>h) (Or.inl ⟨by rfl,?_⟩) ?_ ?_
        rotate_left
        ·intro w'
         go_simp
         with_reducible rfl
        rotate_left
        ·simp only [Act.put,List.setIfInBounds_toArray,List.set_cons_zero,List.set_cons_succ,i64_w,i32_w]
         rfl
        refine pure_ (i:=8) (N:=some 107) (v:=?_) (a':=?_) #[true,true,true,true,true,false,true,true,true,false,false,false,false,false,false,false,false,false,false,false,false,false] rfl rfl (by kernel_rfl) (fun _ _ _ h=>h) (Or.inl ⟨by rfl,?_⟩) ?_ ?_
        rotate_left
        ·intro w'
         go_simp
         with_reducible rfl
        rotate_left
        ·simp only [Act.put,List.setIfInBounds_toArray,List.set_cons_zero,List.set_cons_succ,i64_w,i32_w]
         rfl
        refine pure_ (i:=10) (N:=some 109) (v:=?_) (a':=?_) #[true,true,true,true,true,false,true,true,true,false,true,false,false,false,false,false,false,false,false,false,false,false] rfl rfl (by kernel_rfl) (fun _ _ _ h=>h) (Or.inl ⟨by rfl,?_⟩) ?_ ?_
        rotate_left
        ·intro w'
         go_simp
         with_reducible rfl
        rotate_left
        ·simp only [Act.put,List.setIfInBounds_toArray,List.set_cons_zero,List.set_cons_succ,i64_w,i32_w]
         rfl
        refine pure_ (i:=11) (N:=some 110) (v:=?_) (a':=?_) #[true,true,true,true,true,false,true,true,true,false,true,true,false,false,false,false,false,false,false,false,false,false] rfl rfl (by kernel_rfl) (fun _ _ _ h=>h) (Or.inl ⟨by rfl,?_⟩) ?_ ?_
        rotate_left
        ·intro w'
         go_simp
         with_reducible rfl
        rotate_left
        ·simp only [Act.put,List.setIfInBounds_toArray,List.set_cons_zero,List.set_cons_succ,i64_w,i32_w]
         rfl
        refine pure_ (i:=12) (N:=some 111) (v:=?_) (a':=?_) #[true,true,true,true,true,false,true,true,true,false,true,true,true,false,false,false,false,false,false,false,false,false] rfl rfl (by kernel_rfl) (fun _ _ _ h=>h) (Or.inl ⟨by rfl,?_⟩) ?_ ?_
        rotate_left
        ·intro w'
         go_simp
         with_reducible rfl
        rotate_left
        ·simp only [Act.put,List.setIfInBounds_toArray,List.set_cons_zero,List.set_cons_succ,i64_w,i32_w]
         rfl
        refine take_ (i:=5) (N:=some 104) (v:=?_) (a':=?_) #[true,true,true,true,true,true,true,true,true,false,true,true,true,false,false,false,false,false,false,false,false,false] rfl rfl (by kernel_rfl) (fun _ _ _ h=>h) (Or.inl ⟨by rfl,?_⟩) hHeld ?_ ?_
        rotate_left
        ·rintro w' ⟨s0,s1,s2,s3⟩
         go_simp
         with_reducible rfl
        rotate_left
        ·simp only [Act.put,List.setIfInBounds_toArray,List.set_cons_zero,List.set_cons_succ,i64_w,i32_w]
         rfl
        refine take_ (i:=9) (N:=some 108) (v:=?_) (a':=?_) #[true,true,true,true,true,true,true,true,true,true,true,true,true,false,false,false,false,false,false,false,false,false] rfl rfl (by kernel_rfl) (fun _ _ _ h=>h) (Or.inl ⟨by rfl,?_⟩) hHeld ?_ ?_
        rotate_left
        ·rintro w' ⟨s0,s1,s2,s3⟩
         go_simp
         with_reducible rfl
        rotate_left
        ·simp only [Act.put,List.setIfInBounds_toArray,List.set_cons_zero,List.set_cons_succ,i64_w,i32_w]
         rfl
        refine take_ (i:=13) (N:=some 112) (v:=?_) (a':=?_) #[true,true,true,true,true,true,true,true,true,true,true,true,true,true,false,false,false,false,false,false,false,false] rfl rfl (by kernel_rfl) (fun _ _ _ h=>h) (Or.inl ⟨by rfl,?_⟩) hHeld ?_ ?_
        rotate_left
        ·rintro w' ⟨s0,s1,s2,s3⟩
         go_simp
         with_reducible rfl
        rotate_left
        ·simp only [Act.put,List.setIfInBounds_toArray,List.set_cons_zero,List.set_cons_succ,i64_w,i32_w]
         rfl
        refine pure_ (i:=14) (N:=some 113) (v:=?_) (a':=?_) #[true,true,true,true,true,true,true,true,true,true,true,true,true,true,true,false,false,false,false,false,false,false] rfl rfl (by kernel_rfl) (fun _ _ _ h=>h) (Or.inl ⟨by rfl,?_⟩) ?_ ?_
        rotate_left
        ·intro w'
         go_simp
         with_reducible rfl
        rotate_left
        ·simp only [Act.put,List.setIfInBounds_toArray,List.set_cons_zero,List.set_cons_succ,i64_w,i32_w]
         rfl
        refine take_ (i:=15) (N:=some 114) (v:=?_) (a':=?_) #[true,true,true,true,true,true,true,true,true,true,true,true,true,true,true,true,false,false,false,false,false,false] rfl rfl (by kernel_rfl) (fun _ _ _ h=>h) (Or.inl ⟨by rfl,?_⟩) hHeld ?_ ?_
        rotate_left
        ·rintro w' ⟨s0,s1,s2,s3⟩
         go_simp
         with_reducible rfl
        rotate_left
        ·simp only [Act.put,List.setIfInBounds_toArray,List.set_cons_zero,List.set_cons_succ,i64_w,i32_w]
         rfl
        refine one_ (i:=16) (N:=some 115) #[true,true,true,true,true,true,true,true,true,true,true,true,true,true,true,true,true,false,false,false,false,false] rfl rfl (by kernel_rfl) (by decide) (fun K hK=>?_)
        go_simp
        refine hK.out _ _ ⟨alloc_cell _ c8,alloc_cell _ c4,alloc_cell _ dk,alloc_cell _ dv⟩ (fun hHeld=>?_)
        clear hK K
        refine one_ (i:=17) (N:=some 116) #[true,true,true,true,true,true,true,true,true,true,true,true,true,true,true,true,true,true,false,false,false,false] rfl rfl (by kernel_rfl) (by decide) (fun K hK=>?_)
        refine step_append_lies _ (by rfl) (.tmp 104) (.tmp 115) _ (by rfl) w.heap.size 86 j1 _ 1 24 Tryz.underlying28 hj1 kz0 kz1 kz2 rfl (by omega) (.slice ao i co) i os (by rfl) hA.drew.oo
         ⟨wr.heap.size,0,none⟩ 1 1 [.slice aw n cw] (by rfl) (by rfl) (World.news_of_block (cs:= #[.slice aw n cw]) (t:=86) (fr:=(0,0)) (heap_alloc_new wr _)) (by simp [Value.oneCell'])
         (by omega) (by unfold maxLen;omega) (by omega) (by simp;omega) (wr.heap.size+1) (by simp) ?_
        intro gg cap W1 hown hgrow hat hlt
        obtain⟨hN,hblk,f8_7,hKK,vo1,hi1⟩:=OuB.add hA.drew hMk.out (by omega) hcv hown hgrow (hat.imp id fun e=>by rw [e];simp) rfl
        have c8_7:W1.cell? ⟨kx,8,none⟩=some (.slice ao i co):=by have h:=cell_blk (hblk.trans hA.blk) 8;rw [hkx1] at h;exact h.trans rfl
        have c4_7:W1.cell? ⟨kx,4,none⟩=some (.slice (some ⟨g4,0,none⟩) p.vars.length cap4):=by have h:=cell_blk (hblk.trans hA.blk) 4;rw [hkx1,hnv1] at h;exact h.trans rfl
        have dv_7:W1.cell? ⟨g4,kv,none⟩=some (.slice aw n cw):=(vo1.cellAt kv (by omega)).trans hcv
        have dk_7:W1.cell? ⟨gi,i,none⟩=some (.int .i64 kv):=by
         obtain⟨g9,e9,d9⟩:=ints_get (own_ints (own_keeps hA.drew.ko hi1)) hil
         cases e9
         rw [hkv] at d9
         exact d9
        rw [hkx1] at f8_7
        refine hK.out _ _ ⟨c8_7,c4_7,dk_7,dv_7⟩ (fun hHeld=>?_)
        clear hK K
        refine pure_ (i:=18) (N:=some 117) (v:=?_) (a':=?_) #[true,true,true,true,true,true,true,true,true,true,true,true,true,true,true,true,true,true,true,false,false,false] rfl rfl (by kernel_rfl) (fun _ _ _ h=>h) (Or.inl ⟨by rfl,?_⟩) ?_ ?_
        rotate_left
        ·intro w'
         go_simp
         with_reducible rfl
        rotate_left
        ·simp only [Act.put,List.setIfInBounds_toArray,List.set_cons_zero,List.set_cons_succ,i64_w,i32_w]
         rfl
        refine pure_ (i:=19) (N:=some 118) (v:=?_) (a':=?_) #[true,true,true,true,true,true,true,true,true,true,true,true,true,true,true,true,true,true,true,true,false,false] rfl rfl (by kernel_rfl) (fun _ _ _ h=>h) (Or.inl ⟨by rfl,?_⟩) ?_ ?_
        rotate_left
        ·intro w'
         go_simp
         with_reducible rfl
        rotate_left
        ·simp only [Act.put,List.setIfInBounds_toArray,List.set_cons_zero,List.set_cons_succ,i64_w,i32_w]
         rfl
        refine pure_ (i:=20) (N:=some 119) (v:=?_) (a':=?_) #[true,true,true,true,true,true,true,true,true,true,true,true,true,true,true,true,true,true,true,true,true,false] rfl rfl (by kernel_rfl) (fun _ _ _ h=>h) (Or.inl ⟨by rfl,?_⟩) ?_ ?_
        rotate_left
        ·intro w'
         go_simp
         with_reducible rfl
        rotate_left
        ·simp only [Act.put,List.setIfInBounds_toArray,List.set_cons_zero,List.set_cons_succ,i64_w,i32_w]
         rfl
        refine last_ (i:=21) (N:=none) #[true,true,true,true,true,true,true,true,true,true,true,true,true,true,true,true,true,true,true,true,true,true] rfl rfl (by kernel_rfl) (by decide) (fun K hK=>?_)
        go_simp
        refine hK.out _ _ ?_
        clear hK K
        refine done_ (by kernel_rfl) ?_
        have HN:Hid (RnB (W1.setCell ⟨kx,8,none⟩ (.slice (some ⟨gg,0,none⟩) (i+1) cap)) kp kf p Va Ab vc cb/\∃ vv ov ve cs os es,OuB w (W1.setCell ⟨kx,8,none⟩ (.slice (some ⟨gg,0,none⟩) (i+1) cap)) C y vv ov ve (.slice (some ⟨gi,0,none⟩) M.length kc2) cs os es M (i+1)):=Lib.hid (by
         rw [hkx1] at hN hKK
         exact⟨RN.kk (hKA.trans (KK.undrew hKK)),_,_,_,_,_,_,hN⟩)
        clear hHeld hN hKK hown hgrow hat c8_7 c4_7 dk_7 dv_7 f8_7 hA O RN c8 c4 dk dv
        go_wp2_with fail
        go_roundg k3
        case measure=>omega
        case rel=>exact⟨i+1,by simp,hgk3,by omega,HN⟩
       ·have hie:i=M.length:=by omega
        have t1:decide ((i:Int)<(M.length:Int))=false:=decide_eq_false (by omega)
        subst hie
        obtain⟨ae,ce,rfl⟩:=own_slice O.eo
        have XB:=O.blk
        have x7:wr.cell? ⟨kx,7,none⟩=some (.int .i64 y.code):=by have h:=cell_blk O.blk 7;rw [hkx1] at h;exact h.trans rfl
        have x8:wr.cell? ⟨kx,8,none⟩=some (.slice ao M.length co):=by have h:=cell_blk O.blk 8;rw [hkx1] at h;exact h.trans rfl
        have x9:wr.cell? ⟨kx,9,none⟩=some (.slice ae y.evs.length ce):=by have h:=cell_blk O.blk 9;rw [hkx1] at h;exact h.trans rfl
        have x10:wr.cell? ⟨kx,10,none⟩=some (.int .i64 y.steps):=by have h:=cell_blk O.blk 10;rw [hkx1] at h;exact h.trans rfl
        have x11:wr.cell? ⟨kx,11,none⟩=some (.int .i64 y.used):=by have h:=cell_blk O.blk 11;rw [hkx1] at h;exact h.trans rfl
        rw [hkx1] at XB
        have HBB:=Lib.hid O.b
        have hpn1:Hid (p.n=(C.n:Int)):=Lib.hid (by rw [hn1];exact HPN)
        have hW8:=Lib.hid O
        have R8:=Lib.hid RN
        clear O RN hkx1 hnv1 hn1
        have R8':=show RnB wr kp kf p Va Ab vc cb from R8
        have hkx8:kp+1≠kx:=blk_ne R8'.r8 XB (by decide)
        have hkx9:kp+1+1≠kx:=blk_ne R8'.r9 XB (by decide)
        have hkf8:kp+1≠kf:=by omega
        have hkf9:kp+1+1≠kf:=by omega
        have y0:wr.cell? ⟨kf,0,none⟩=some (.int .i64 0):=(cell_blk R8'.rf _).trans rfl
        have y1:wr.cell? ⟨kf,1,none⟩=some (.bool false):=(cell_blk R8'.rf _).trans rfl
        have y2:wr.cell? ⟨kf,2,none⟩=some (.int .i64 0):=(cell_blk R8'.rf _).trans rfl
        have z0:wr.cell? ⟨kp+1,0,none⟩=some (.int .i64 0):=(cell_blk R8'.r8 _).trans rfl
        have z1:wr.cell? ⟨kp+1,1,none⟩=some (.slice none 0 0):=(cell_blk R8'.r8 _).trans rfl
        have z2:wr.cell? ⟨kp+1,2,none⟩=some (.slice none 0 0):=(cell_blk R8'.r8 _).trans rfl
        have z3:wr.cell? ⟨kp+1,3,none⟩=some (.int .i64 0):=(cell_blk R8'.r8 _).trans rfl
        have z4:wr.cell? ⟨kp+1,4,none⟩=some (.int .i64 0):=(cell_blk R8'.r8 _).trans rfl
        have z5:wr.cell? ⟨kp+1+1,0,none⟩=some (.int .i64 0):=(cell_blk R8'.r9 _).trans rfl
        have z6:wr.cell? ⟨kp+1+1,1,none⟩=some (.bool false):=(cell_blk R8'.r9 _).trans rfl
        have z7:wr.cell? ⟨kp+1+1,2,none⟩=some (.int .i64 0):=(cell_blk R8'.r9 _).trans rfl
        have v0:=frozen_blk R8'.r8 0
        have v1:=frozen_blk R8'.r8 1
        have v2:=frozen_blk R8'.r8 2
        have v3:=frozen_blk R8'.r8 3
        have v4:=frozen_blk R8'.r8 4
        have v5:=frozen_blk R8'.r9 0
        have v6:=frozen_blk R8'.r9 1
        have v7:=frozen_blk R8'.r9 2
        have XBH:=Lib.hid XB
        clear R8' XB
        go_wp2_with fail
        refine start_ (n:=7) (S:=fun w'=>w'.cell? ⟨kx,7,none⟩=some (.int .i64 y.code)/\w'.cell? ⟨kx,8,none⟩=some (.slice ao M.length co)/\w'.cell? ⟨kx,9,none⟩=some (.slice ae y.evs.length ce)/\w'.cell? ⟨kx,10,none⟩=some (.int .i64 y.steps)/\w'.cell? ⟨kx,11,none⟩=some (.int .i64 y.used)/\w'.cell? ⟨kf,0,none⟩=some (.int .i64 0)/\w'.cell? ⟨kf,1,none⟩=some (.bool false)/\w'.cell? ⟨kf,2,none⟩=some (.int .i64 0)) (ds:=[6]) #[false,false,false,false,false,false,false] (by kernel_rfl) rfl rfl ⟨x7,x8,x9,x10,x11,y0,y1,y2⟩ (fun hHeld=>?_)
        refine pure_ (i:=0) (N:=some 120) (v:=?_) (a':=?_) #[true,false,false,false,false,false,false] rfl rfl (by kernel_rfl) (fun _ _ _ h=>h) (Or.inl ⟨by rfl,?_⟩) ?_ ?_
        rotate_left
        ·intro w'
         go_simp
         with_reducible rfl
        rotate_left
        ·simp only [Act.put,List.setIfInBounds_toArray,List.set_cons_zero,List.set_cons_succ,i64_w,i32_w]
         rfl
        refine pure_ (i:=1) (N:=some 121) (v:=?_) (a':=?_) #[true,true,false,false,false,false,false] rfl rfl (by kernel_rfl) (fun _ _ _ h=>h) (Or.inl ⟨by rfl,?_⟩) ?_ ?_
        rotate_left
        ·intro w'
         go_simp
         with_reducible rfl
        rotate_left
        ·simp only [Act.put,List.setIfInBounds_toArray,List.set_cons_zero,List.set_cons_succ,i64_w,i32_w]
         rfl
        refine pure_ (i:=2) (N:=some 122) (v:=?_) (a':=?_) #[true,true,true,false,false,false,false] rfl rfl (by kernel_rfl) (fun _ _ _ h=>h) (Or.inl ⟨by rfl,?_⟩) ?_ ?_
        rotate_left
        ·intro w'
         go_simp
         with_reducible rfl
        rotate_left
        ·simp only [Act.put,List.setIfInBounds_toArray,List.set_cons_zero,List.set_cons_succ,i64_w,i32_w]
         rfl
        refine take_ (i:=3) (N:=some 123) (v:=?_) (a':=?_) #[true,true,true,true,false,false,false] rfl rfl (by kernel_rfl) (fun _ _ _ h=>h) (Or.inl ⟨by rfl,?_⟩) hHeld ?_ ?_
        rotate_left
        ·rintro w' ⟨s0,s1,s2,s3,s4,s5,s6,s7⟩
         go_simp
         with_reducible rfl
        rotate_left
        ·simp only [Act.put,List.setIfInBounds_toArray,List.set_cons_zero,List.set_cons_succ,i64_w,i32_w]
         rfl
        refine take_ (i:=4) (N:=some 124) (v:=?_) (a':=?_) #[true,true,true,true,true,false,false] rfl rfl (by kernel_rfl) (fun _ _ _ h=>h) (Or.inl ⟨by rfl,?_⟩) hHeld ?_ ?_
        rotate_left
        ·rintro w' ⟨s0,s1,s2,s3,s4,s5,s6,s7⟩
         go_simp
         with_reducible rfl
        rotate_left
        ·simp only [Act.put,List.setIfInBounds_toArray,List.set_cons_zero,List.set_cons_succ,i64_w,i32_w]
         rfl
        refine one_ (i:=5) (N:=none) #[true,true,true,true,true,true,false] rfl rfl (by kernel_rfl) (by decide) (fun K hK=>?_)
        refine skip_ (w1:=?_) (by rfl) rfl ?_ ?_
        rotate_left
        ·go_simp
         rfl
        refine hK.out _ _ ⟨cell_set5d hkx8 x7 _ _ _ _ _,cell_set5d hkx8 x8 _ _ _ _ _,cell_set5d hkx8 x9 _ _ _ _ _,cell_set5d hkx8 x10 _ _ _ _ _,cell_set5d hkx8 x11 _ _ _ _ _,cell_set5d hkf8 y0 _ _ _ _ _,cell_set5d hkf8 y1 _ _ _ _ _,cell_set5d hkf8 y2 _ _ _ _ _⟩ (fun hHeld=>?_)
        clear hK K
        refine last_ (i:=6) (N:=none) #[true,true,true,true,true,true,true] rfl rfl (by kernel_rfl) (by decide) (fun K hK=>?_)
        go_simp
        refine hK.out _ _ ?_
        clear hK K
        refine done_ (by kernel_rfl) ?_
        have hbk:w.heap.size<=kp:=by rw [show kp=_ from HKP];exact Nat.le_refl _
        refine gen_world (Q:=fun W=>Exit.then _ _ _ _ W) _ (fun W=>W.heap[kp+1]?=some (.cells #[.int .i64 y.code,(.slice ao M.length co),.slice ae y.evs.length ce,.int .i64 y.steps,.int .i64 y.used] 34 (0,0))/\W.heap[kp+1+1]?=some (.cells #[.int .i64 0,.bool false,.int .i64 0] 36 (0,0))/\Below w.heap.size w W/\∀ t,34≠t->36≠t->Keeps wr W t) (run_fin (show RnB wr kp kf p Va Ab vc cb from R8).r8 (show RnB wr kp kf p Va Ab vc cb from R8).r9 hbk (show Below w.heap.size w wr from HBB) _ _ _ _ _ _ _ _) ?_
        clear hHeld x7 x8 x9 x10 x11 y0 y1 y2 z0 z1 z2 z3 z4 z5 z6 z7 v0 v1 v2 v3 v4 v5 v6 v7
        rintro W9 ⟨h8,h9,hb9,hk9⟩
        have z0:W9.cell? ⟨kp+1,0,none⟩=some (.int .i64 y.code):=(cell_blk h8 _).trans rfl
        have z1:W9.cell? ⟨kp+1,1,none⟩=some (.slice ao M.length co):=(cell_blk h8 _).trans rfl
        have z2:W9.cell? ⟨kp+1,2,none⟩=some (.slice ae y.evs.length ce):=(cell_blk h8 _).trans rfl
        have z3:W9.cell? ⟨kp+1,3,none⟩=some (.int .i64 y.steps):=(cell_blk h8 _).trans rfl
        have z4:W9.cell? ⟨kp+1,4,none⟩=some (.int .i64 y.used):=(cell_blk h8 _).trans rfl
        have z5:W9.cell? ⟨kp+1+1,0,none⟩=some (.int .i64 0):=(cell_blk h9 _).trans rfl
        have z6:W9.cell? ⟨kp+1+1,1,none⟩=some (.bool false):=(cell_blk h9 _).trans rfl
        have z7:W9.cell? ⟨kp+1+1,2,none⟩=some (.int .i64 0):=(cell_blk h9 _).trans rfl
        have hb9:=Lib.hid hb9
        have hk9:=Lib.hid hk9
        clear h8 h9
        go_wp2_with fail
        refine bodyPost_ret (v:= .tuple #[.agg #[.int .i64 y.code,(.slice ao M.length co),.slice ae y.evs.length ce,.int .i64 y.steps,.int .i64 y.used],.agg #[.int .i64 0,.bool false,.int .i64 0]]) (by simp [results,Tryz.results9,go_sem,z0,z1,z2,z3,z4,z5,z6,z7]) rfl ?_
        have hW:=show OuB w wr C y vv (.slice ao M.length co) (.slice ae y.evs.length ce) (.slice kb M.length kc2) cs os es M M.length from hW8
        have hkk:=show ∀ t,34≠t->36≠t->Keeps wr W9 t from hk9
        exact⟨_,_,es,rfl,⟨_,_,_,rfl⟩,own_keeps hW.eo (hkk _ (by decide) (by decide)),EvR.imp (fun v n xs h=>own_keeps h (hkk _ (by decide) (by decide))) hW.er,hb9,fun _=>by have e:=show M=Al.kindsOf p.vars 2 from hMe;subst e;exact OuB.outs hW hkk hpn1.out⟩
end Go.Proofs.YtkplfaionpplaaaGreatDoor
