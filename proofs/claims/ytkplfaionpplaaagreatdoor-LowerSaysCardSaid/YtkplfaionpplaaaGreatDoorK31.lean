/- Part 31: B115, B116, P38, B85, P34. -/
import Derived.Test.YtkplfaionpplaaaGreatDoorK30
import Derived.Test.YtkplfaionpplaaaGreatDoorRows
import Derived.LaidLaws
import Derived.Stop.LaidErr
import Derived.MakeChecks
import Derived.FnData
set_option maxRecDepth 100000
set_option maxHeartbeats 6400000
set_option linter.unusedVariables false
set_option linter.unusedSimpArgs false
namespace Go.Proofs.YtkplfaionpplaaaGreatDoor
open Go.RowKit Go.Proofs.YtkplfaionpplaaaGreatDoorW.PrintWords Go.Proofs.YtkplfaionpplaaaGreatDoorW.PrintLast
theorem first_x {w:World}{A:Nat->Addr}(S:Sent w A):Calls Tryz.prog 7 #[] w fun e w'=>e= .returned (.bool true)/\Below w.heap.size w w':=by
 obtain⟨W,hW⟩:∃ W,W=(w.alloc (.cells #[.int .i64 1,.bool false,.int .i64 2,.bool false,.int .i64 3,.bool false] 81)).alloc (.cells #[.int .i64 17,.int .i64 4,.slice (some ⟨w.heap.size,0,none⟩) 3 3,.slice none 0 0] 27):=⟨_,rfl⟩
 have hb0:Below w.heap.size w W:=by rw [hW];exact alloc_two _ _ _
 obtain⟨kv,hkv⟩:∃ kv,kv=w.heap.size:=⟨_,rfl⟩
 have V0:W.heap[kv]?=some (.cells #[.int .i64 1,.bool false,.int .i64 2,.bool false,.int .i64 3,.bool false] 81 (0,0)):=by rw [hW,hkv];exact alloc_blk _ (heap_alloc_new w _)
 have P0:W.heap[kv+1]?=some (.cells #[.int .i64 17,.int .i64 4,.slice (some ⟨kv,0,none⟩) 3 3,.slice none 0 0] 27 (0,0)):=by rw [hW,hkv];exact alloc_at _ _ _
 have HL0:=lower_fine_x (S.below hb0) prog0_fine (prog0_lies V0)
 have HL:Calls Tryz.prog 10 #[.agg #[.int .i64 17,.int .i64 4,.slice (some ⟨kv,0,none⟩) 3 3,.slice none 0 0]] W fun e w'=>∃ a n c a2 n2 c2,e= .returned (.tuple #[.agg #[.slice a n c,.int .i64 24,.int .i64 4114],.slice a2 n2 c2,Value.nilIface])/\Below W.heap.size W w':=by
  refine Calls.mono HL0 ?_
  rintro e w1 ⟨vi,vs,rfl,h1,h2,hb⟩
  obtain⟨a,c,rfl⟩:=own_slice h1
  obtain⟨a2,c2,rfl⟩:=own_slice h2
  exact⟨a,_,c,a2,_,c2,rfl,hb⟩
 clear HL0
 have HT:=fun w0=>lower_tape w0 17 4 (some ⟨kv,0,none⟩) 3 3 none 0 0 (by decide) (by decide)
 have HP:=fun w0=>place_yes w0 17 4 1 (some ⟨kv,0,none⟩) 3 3 (.slice none 0 0) (by decide) (by decide) (by decide) (by decide)
 have e1:(2:Int)+4 * ((3:Nat):Int)=14:=by decide
 have e2:(2:Int)+4 * 1=6:=by decide
 rw [e2] at HP
 simp only [e1] at HT
 clear e1 e2
 go_enter Tryz.func7,Tryz.ntmps7
 go_wp2_with fail
 rw [<-hW]
 simp only [<-hkv]
 replace hkv:=Lib.hid hkv
 clear hW
 go_upto_region 3 with (go_at_call 10;refine HL.mono ?_;rintro e w1 ⟨a,n,c,a2,n2,c2,rfl,hb1⟩;have V1:=below_blk hb1 V0 (blk_lt V0);have P1:=below_blk hb1 P0 (blk_lt P0);have hb2:=hb0.trans (lower_below hb1 hb0.size);clear HL V0 P0)
 refine gen_world (Q:=fun W=>Code.wp _ _ _ _ W) _ (fun W=>W.heap[kv+1]?=some (.cells #[.int .i64 17,.int .i64 4,.slice (some ⟨kv,0,none⟩) 3 3,.slice none 0 0] 27 (0,0))/\W.heap[w1.heap.size]?=some (.cells #[.slice a n c,.int .i64 24,.int .i64 4114] 41 (0,0))/\Below w.heap.size w W) ⟨alloc_blk _ P1,heap_alloc_new w1 _,hb2.alloc (Nat.le_trans hb0.size hb1.size) _⟩ ?_
 rintro W2 ⟨P2,C2,hb4⟩
 obtain⟨kc,hkc⟩:∃ kc,kc=w1.heap.size:=⟨_,rfl⟩
 rw [<-hkc] at C2
 simp only [<-hkc]
 replace hkc:=Lib.hid hkc
 clear V1 P1 hb1 hb2
 have c0:W2.cell? ⟨kv+1,0,none⟩=some (.int .i64 17):=(cell_blk P2 _).trans rfl
 have c1:W2.cell? ⟨kv+1,1,none⟩=some (.int .i64 4):=(cell_blk P2 _).trans rfl
 have c2:W2.cell? ⟨kv+1,2,none⟩=some (.slice (some ⟨kv,0,none⟩) 3 3):=(cell_blk P2 _).trans rfl
 have c3:W2.cell? ⟨kv+1,3,none⟩=some (.slice none 0 0):=(cell_blk P2 _).trans rfl
 go_wp2_with (first
  |(go_at_call 26;refine (HT _).mono ?_;rintro e w3 ⟨rfl,hb5⟩;have P3:=below_blk hb5 P2 (blk_lt P2);have C3:=below_blk hb5 C2 (blk_lt C2);have hb6:=hb4.trans (lower_below hb5 hb4.size);have d0:w3.cell? ⟨kv+1,0,none⟩=some (.int .i64 17):=(cell_blk P3 _).trans rfl;have d1:w3.cell? ⟨kv+1,1,none⟩=some (.int .i64 4):=(cell_blk P3 _).trans rfl;have d2:w3.cell? ⟨kv+1,2,none⟩=some (.slice (some ⟨kv,0,none⟩) 3 3):=(cell_blk P3 _).trans rfl;have d3:w3.cell? ⟨kv+1,3,none⟩=some (.slice none 0 0):=(cell_blk P3 _).trans rfl)
  |(go_at_call 28;refine (HP _).mono ?_;rintro e w4 ⟨rfl,hb7⟩;have C4:=below_blk hb7 C3 (blk_lt C3);have hb8:=hb6.trans (lower_below hb7 hb6.size);have e2:w4.cell? ⟨kc,2,none⟩=some (.int .i64 4114):=(cell_blk C4 _).trans rfl))
 exact bodyPost_ret (v:= .bool true) (by simp [results,Tryz.results7,go_sem]) rfl ⟨rfl,hb8⟩
structure SY (w0 w:World)(A:Nat->Addr)(kp kf kc b1 b2:Nat)(p:Al.Prog)(Va Ab:Option Addr)(vc cb:Nat)(ia:Option Addr)(ic:Nat)(CI:List Al.Inst)(M:Nat)(FM:Al.Fault)(gv:Value)(ma:Option Addr)(ml mc:Nat)(mw:List Int):Prop where
 P:PBox w kp p Va Ab vc cb
 F:w.heap[kf]?=some (.cells #[.int .i64 0,.bool false,.int .i64 0] 36 (0,0))
 C:w.heap[kc]?=some (.cells #[.slice ia CI.length ic,.int .i64 24,.int .i64 M] 41 (0,0))
 O:w.ownsRow b1 97 6 (.slice ia CI.length ic) CI.length (instsV CI)
 E:ErrAt w A FM gv
 R:FM.code=0->w.ownsRow b2 56 1 (.slice ma ml mc) ml (wordsV mw)
 b:Below w0.heap.size w0 w
def CellsY (kp kf kc:Nat)(p:Al.Prog)(Va Ab:Option Addr)(vc cb:Nat)(ia:Option Addr)(ic:Nat)(CI:List Al.Inst)(M:Nat)(w:World):Prop:=
 w.cell? ⟨kp,0,none⟩=some (.int .i64 p.q)/\w.cell? ⟨kp,1,none⟩=some (.int .i64 p.n)/\w.cell? ⟨kp,2,none⟩=some (.slice Va p.vars.length vc)/\w.cell? ⟨kp,3,none⟩=some (.slice Ab p.body.length cb)/\w.cell? ⟨kf,0,none⟩=some (.int .i64 0)/\w.cell? ⟨kf,1,none⟩=some (.bool false)/\w.cell? ⟨kf,2,none⟩=some (.int .i64 0)/\w.cell? ⟨kc,0,none⟩=some (.slice ia CI.length ic)/\w.cell? ⟨kc,1,none⟩=some (.int .i64 24)/\w.cell? ⟨kc,2,none⟩=some (.int .i64 M)
section
variable {w0 w w':World} {A:Nat->Addr} {kp kf kc b1 b2:Nat} {p:Al.Prog} {Va Ab:Option Addr} {vc cb:Nat} {ia:Option Addr} {ic:Nat} {CI:List Al.Inst} {M:Nat} {FM:Al.Fault} {gv:Value} {ma:Option Addr} {ml mc:Nat} {mw:List Int}
theorem SY.below (h:SY w0 w A kp kf kc b1 b2 p Va Ab vc cb ia ic CI M FM gv ma ml mc mw)(g:Below w.heap.size w w'):SY w0 w' A kp kf kc b1 b2 p Va Ab vc cb ia ic CI M FM gv ma ml mc mw:=
 ⟨below_blk g h.P (blk_lt h.P),below_blk g h.F (blk_lt h.F),below_blk g h.C (blk_lt h.C),own_of h.O fun k hk=>g.block k (h.O.lt k hk).2,h.E.below g,fun e=>own_of (h.R e) fun k hk=>g.block k ((h.R e).lt k hk).2,h.b.trans (lower_below g h.b.size)⟩
theorem SY.drew (h:SY w0 w A kp kf kc b1 b2 p Va Ab vc cb ia ic CI M FM gv ma ml mc mw):SY w0 w.drew A kp kf kc b1 b2 p Va Ab vc cb ia ic CI M FM gv ma ml mc mw:=
 h.below (below_drew' (Below.refl _ _))
theorem SY.cells (h:SY w0 w A kp kf kc b1 b2 p Va Ab vc cb ia ic CI M FM gv ma ml mc mw):CellsY kp kf kc p Va Ab vc cb ia ic CI M w:=
 ⟨h.P.cells.1,h.P.cells.2.1,h.P.cells.2.2.1,h.P.cells.2.2.2,(cell_blk h.F _).trans rfl,(cell_blk h.F _).trans rfl,(cell_blk h.F _).trans rfl,(cell_blk h.C _).trans rfl,(cell_blk h.C _).trans rfl,(cell_blk h.C _).trans rfl⟩
theorem SY.c7 (h:SY w0 w A kp kf kc b1 b2 p Va Ab vc cb ia ic CI M FM gv ma ml mc mw):w.cell? ⟨kp,0,none⟩=some (.int .i64 p.q)/\w.cell? ⟨kp,1,none⟩=some (.int .i64 p.n)/\w.cell? ⟨kp,2,none⟩=some (.slice Va p.vars.length vc)/\w.cell? ⟨kp,3,none⟩=some (.slice Ab p.body.length cb)/\w.cell? ⟨kc,0,none⟩=some (.slice ia CI.length ic)/\w.cell? ⟨kc,1,none⟩=some (.int .i64 24)/\w.cell? ⟨kc,2,none⟩=some (.int .i64 M):=
 ⟨h.cells.1,h.cells.2.1,h.cells.2.2.1,h.cells.2.2.2.1,h.cells.2.2.2.2.2.2.2.1,h.cells.2.2.2.2.2.2.2.2.1,h.cells.2.2.2.2.2.2.2.2.2⟩
end
theorem SY.c4 {w0 w:World}{A:Nat->Addr}{kp kf kc b1 b2:Nat}{p:Al.Prog}{Va Ab:Option Addr}{vc cb:Nat}{ia:Option Addr}{ic:Nat}{CI:List Al.Inst}{M:Nat}{FM:Al.Fault}{gv:Value}{ma:Option Addr}{ml mc:Nat}{mw:List Int}(h:SY w0 w A kp kf kc b1 b2 p Va Ab vc cb ia ic CI M FM gv ma ml mc mw):w.cell? ⟨kp,0,none⟩=some (.int .i64 p.q)/\w.cell? ⟨kp,1,none⟩=some (.int .i64 p.n)/\w.cell? ⟨kp,2,none⟩=some (.slice Va p.vars.length vc)/\w.cell? ⟨kp,3,none⟩=some (.slice Ab p.body.length cb):=h.P.cells
theorem MemX.shape {w w':World}{A:Nat->Addr}{p:Al.Prog}{mem:Int}{ins:List (List Int)}{tape:List Int}{e:Ending}(h:MemX w w' A p mem ins tape e):∃ ma ml mc gv,e= .returned (.tuple #[.slice ma ml mc,gv])/\ErrAt w' A (memoryF p mem ins tape) gv/\((memoryF p mem ins tape).code≠0->ma=none/\ml=0/\mc=0)/\((memoryF p mem ins tape).code=0->ml=mem.toNat/\ml<=mc/\w'.ownsRow w.heap.size 56 1 (.slice ma ml mc) ml (wordsV (Al.memF p mem ins tape)))/\Below w.heap.size w w':=by
 obtain⟨vm,v,rfl,h1,h2,h3,h4⟩:=h
 by_cases hc:(memoryF p mem ins tape).code=0
 ·have ho:=h3 hc
  rcases ho.2 with⟨hv,hn⟩|⟨g,cap,cur,hv,g1,g2,g3,g4⟩
  ·subst hv
   rw [hn] at ho ⊢
   exact⟨_,_,_,v,rfl,h1,fun h=>absurd hc h,fun _=>⟨rfl,Nat.le_refl _,ho⟩,h4⟩
  ·subst hv
   exact⟨_,_,_,v,rfl,h1,fun h=>absurd hc h,fun _=>⟨rfl,g3,ho⟩,h4⟩
 ·obtain rfl:=h2 hc
  exact⟨_,_,_,v,rfl,h1,fun _=>⟨rfl,rfl,rfl⟩,fun h=>absurd h hc,h4⟩
def OutsAt (w:World)(base:Nat)(vo:Value)(K:List Int)(n:Nat)(V:Al.Vs):Prop:=∃ os,w.ownsRow base 86 1 vo K.length os/\∀ i (h:i<K.length),∃ v,os[i]?=some v/\w.ownsRow base 3 1 v n (vecV n (V K[i].toNat))
theorem OutsAt.below {w w':World}{base:Nat}{vo:Value}{K:List Int}{n:Nat}{V:Al.Vs}(h:OutsAt w base vo K n V)(hb:Below w.heap.size w w'):OutsAt w' base vo K n V:=by
 obtain⟨os,ho,hr⟩:=h
 refine⟨os,own_of ho fun k hk=>hb.block k (ho.lt k hk).2,fun i hi=>?_⟩
 obtain⟨v,h1,h2⟩:=hr i hi
 exact⟨v,h1,own_of h2 fun k hk=>hb.block k (h2.lt k hk).2⟩
theorem outs_same {w:World}{B1 B2 n:Nat}{a a2:Option Addr}{c c2:Nat}{K:List Int}{V:Al.Vs}(h:OutsAt w B1 (.slice a K.length c) K n V)(h2:OutsAt w B2 (.slice a2 K.length c2) K n V)(hK:K.length<=1000)(hn:n<=256):
  Calls Tryz.prog 16 #[.slice a K.length c,.slice a2 K.length c2] w fun e w'=>e= .returned (.bool true)/\Below w.heap.size w w':=by
 obtain⟨os,ho,hr⟩:=h
 obtain⟨os2,ho2,hr2⟩:=h2
 have e:∀ i,∀ (h:i<K.length),K.getD i 0=K[i]:=fun i h=>by rw [List.getD_eq_getElem?_getD,List.getElem?_eq_getElem h];rfl
 have hv:∀ f:Nat->Int,(vecN n f).length=n:=fun f=>vecN_len n f
 refine same_vectors (X:=fun i=>vecN n (V (K.getD i 0).toNat)) ho ho2 (fun i hi=>?_) (fun i hi=>?_) (fun i hi=>by rw [hv];omega) (by omega)
 ·obtain⟨v,h1,h3⟩:=hr i hi
  refine⟨v,h1,?_⟩
  rw [hv,e i hi];exact h3
 ·obtain⟨v,h1,h3⟩:=hr2 i hi
  refine⟨v,h1,?_⟩
  rw [hv,e i hi];exact h3
theorem light_parts3 {p:Al.Prog}{ni nt:Nat}(h:(lightF p && (decide (ni<=14) && decide (nt<=200)))=true):p.n<=16/\p.vars.length<=20/\(Al.flatL p.body).length<=30/\Al.workF 13 p.body<=400/\ni<=14/\nt<=200:=by
 unfold lightF at h
 simp only [Bool.and_eq_true,decide_eq_true_eq] at h
 exact⟨h.1.1,h.1.2.1,flatOk_len h.1.2.2.1,h.1.2.2.2,h.2.1,h.2.2⟩
theorem mem_vars {p:Al.Prog}{ins:List (List Int)}{tape:List Int}(hF:Al.Fine p)(hi:Al.InOk p ins tape)(ht:∀ x∈tape,0<=x/\x<4294967296){mem:Nat}(hmem:Al.endF p+4096<=(mem:Int)):
  ∀ v k,v<p.vars.length->k<p.n.toNat->(2+p.n.toNat * v+k<mem)/\(Al.memF p mem ins tape).getD (2+p.n.toNat * v+k) 0=Al.Vof (Al.V0 p ins) v k/\0<=Al.Vof (Al.V0 p ins) v k/\Al.Vof (Al.V0 p ins) v k<p.q:=by
 obtain⟨hl,hm,_⟩:=Al.mem_ok hF hi ht (Al.bitsOf p.q) hmem
 intro v k hv hk
 have h1:=hm.mv v k hv hk
 have h2:=hm.vr v k hv hk
 have h3:=Al.endF_eq (bits:=Al.bitsOf p.q) hF
 have hq:=hF.q
 have e:((Al.envOf p (Al.bitsOf p.q)).q:Int)=p.q:=by simp [Al.envOf];omega
 refine⟨?_,h1,h2.1,by rw [<-e];exact h2.2⟩
 have h4:p.n.toNat * v+p.n.toNat<=p.n.toNat * p.vars.length:=by
  have:p.n.toNat * (v+1)<=p.n.toNat * p.vars.length:=Nat.mul_le_mul (Nat.le_refl _) hv
  rwa [Nat.mul_add,Nat.mul_one] at this
 have h5:(Al.envOf p (Al.bitsOf p.q)).fin=2+p.n.toNat * p.vars.length:=rfl
 omega
set_option maxHeartbeats 16000000 in
theorem says_any {w:World}{A:Nat->Addr}(S:Sent w A){p:Al.Prog}{Va Ab Ia Sa:Option Addr}{vc cb ic sc:Nat}{ins:List (List Int)}{tape:List Int}(mem v:Int)(hp:PLies w p Va Ab vc cb)(hA:Kd.C (Kd.slice 3 (Kd.int .i64)) w Ia ins.length ins)
  (hS:(Kd.int .u32).C w Sa tape.length tape) (hs:∀ t∈tape,0<=t/\t<4294967296):
  Calls Tryz.prog 6 #[progV p Va Ab vc cb,.slice Ia ins.length ic,.slice Sa tape.length sc,.int .i64 mem,.int .i64 v] w fun e w'=>e= .returned (.bool true)/\Below w.heap.size w w':=by
 obtain⟨W,hW⟩:∃ W,W=w.alloc (.cells #[.int .i64 p.q,.int .i64 p.n,.slice Va p.vars.length vc,.slice Ab p.body.length cb] 27):=⟨_,rfl⟩
 have hb0:Below w.heap.size w W:=by rw [hW];exact (Below.refl _ _).alloc (Nat.le_refl _) _
 obtain⟨kp,hkp⟩:∃ kp,kp=w.heap.size:=⟨_,rfl⟩
 have P0:PBox W kp p Va Ab vc cb:=by rw [hW,hkp];exact heap_alloc_new w _
 have HLA:=fun (w0:World) (hb:Below w.heap.size w w0)=>light_any (hp.below hb) Ia Sa ins.length ic tape.length sc
 have HF1:=first_x (S.below hb0)
 unfold progV at HLA
 obtain⟨lA,hlA⟩:∃ lA,lA=(lightF p && (decide (ins.length<=14) && decide (tape.length<=200))):=⟨_,rfl⟩
 simp only [<-hlA] at HLA
 replace hlA:=Lib.hid hlA
 have HP:=Lib.hid hp
 have HAA:=Lib.hid hA
 have HSS:=Lib.hid (show _/\_ from⟨hS,hs⟩)
 clear hp hA hS hs
 go_enter Tryz.func6,Tryz.ntmps6
 unfold progV
 go_wp2_with fail
 rw [<-hW]
 simp only [<-hkp]
 replace hkp:=Lib.hid hkp
 clear hW
 go_upto_region 4 with (go_at_call 7;refine HF1.mono ?_;rintro e w1 ⟨rfl,hb1⟩;have P1:PBox w1 kp p Va Ab vc cb:=below_blk hb1 P0 (blk_lt P0);have hb2:=hb0.trans (lower_below hb1 hb0.size))
 clear HF1 P0 hb0 hb1
 obtain⟨p0,p1,p2,p3⟩:=P1.cells
 cases lA with
 |false=>
  go_wp2_with (first|(go_at_call 8;refine (HLA _ hb2).mono ?_;rintro e w2 ⟨rfl,hb3⟩;have hb4:=hb2.trans (lower_below hb3 hb2.size)))
  exact bodyPost_ret (v:= .bool true) (by simp [results,Tryz.results6,go_sem]) rfl ⟨rfl,hb4⟩
 |true=>
 obtain⟨hn16,hv20,hfl,hwk,hiA,hsA⟩:=light_parts3 (Eq.symm (show true=_ from hlA))
 clear hlA
 have HCk:=fun (w0:World) (hb:Below w.heap.size w w0)=>ref_check ((show PLies w p Va Ab vc cb from HP).below hb) (by omega) (by omega)
 have HMe:=fun (w0:World) (hb:Below w.heap.size w w0)=>memory_any (S.below hb) (ic:=ic) (tc:=sc) (mem:=mem) ((show PLies w p Va Ab vc cb from HP).below hb) (by omega) (by omega) (Kd.C_below (show Kd.C (Kd.slice 3 (Kd.int .i64)) w Ia ins.length ins from HAA) hb) (by omega) (Kd.C_below HSS.out.1 hb) HSS.out.2
 unfold progV at HMe
 obtain⟨F,hF⟩:∃ F,F=Al.checkF p:=⟨_,rfl⟩
 simp only [<-hF] at HCk
 replace hF:=Lib.hid hF
 go_upto_region 7 with (first
  |(go_at_call 8;refine (HLA _ hb2).mono ?_;rintro e w2 ⟨rfl,hb3⟩;have hb4:=hb2.trans (lower_below hb3 hb2.size);have P2:PBox w2 kp p Va Ab vc cb:=below_blk hb3 P1 (blk_lt P1);clear p0 p1 p2 p3;obtain⟨p0,p1,p2,p3⟩:=P2.cells)
  |(go_at_call 19;refine (HCk _ hb4).mono ?_;rintro e w3 ⟨rfl,hb5⟩;have hb6:=hb4.trans (lower_below hb5 hb4.size);have P3:PBox w3 kp p Va Ab vc cb:=below_blk hb5 P2 (blk_lt P2)))
 refine gen_world (Q:=fun W=>Code.wp _ _ _ _ W) _ (fun W=>PBox W kp p Va Ab vc cb/\W.heap[w3.heap.size]?=some (.cells #[.int .i64 F.code,.bool F.placed,.int .i64 F.pos] 36 (0,0))/\Below w.heap.size w W) ⟨alloc_blk _ P3,heap_alloc_new w3 _,hb6.alloc hb6.size _⟩ ?_
 obtain⟨kf,hkf⟩:∃ kf,kf=w3.heap.size:=⟨_,rfl⟩
 simp only [<-hkf]
 clear hkf P1 P2 P3 p0 p1 p2 p3 hb2 hb3 hb4 hb5 hb6 HLA HCk
 rintro W5 ⟨P5,F5,hb5⟩
 obtain⟨p0,p1,p2,p3⟩:=P5.cells
 have f0:W5.cell? ⟨kf,0,none⟩=some (.int .i64 F.code):=(cell_blk F5 _).trans rfl
 have f1:W5.cell? ⟨kf,1,none⟩=some (.bool F.placed):=(cell_blk F5 _).trans rfl
 have f2:W5.cell? ⟨kf,2,none⟩=some (.int .i64 F.pos):=(cell_blk F5 _).trans rfl
 by_cases hck:(Al.checkF p).code=0
 case neg=>
  have hMF:memoryF p mem ins tape=F:=by unfold memoryF;rw [if_pos hck,show F=_ from hF]
  have HL:=fun (w0:World) (hb:Below w.heap.size w w0)=>lower_no (S.below hb) (by omega) (by omega) ((show PLies w p Va Ab vc cb from HP).below hb) hck
  unfold progV at HL
  unfold MemX at HMe
  rw [<-show F=_ from hF] at hck
  simp only [<-show F=_ from hF] at HL
  simp only [hMF] at HMe
  have HSa:=fun (w0:World) (hb:Below w.heap.size w w0) (v0:Value) (h:ErrAt w0 A F v0)=>see_same (S.below hb) h h.one F
  simp only [decide_true] at HSa
  unfold faultV at HSa
  have e1:(F.code !=0)=true:=by simp [hck]
  have e1':(F.code == 0)=false:=by simp [hck]
  have e2:decide (F.code=0)=false:=decide_eq_false hck
  have HCK:=Lib.hid hck
  clear hMF hck
  go_wp2_with (first
   |(go_at_call 10;refine (HL _ hb5).mono ?_;rintro e w6 ⟨v1,rfl,hE1,hb6⟩;have hb7:=(hb5.trans (lower_below hb6 hb5.size)).alloc (Nat.le_trans hb5.size hb6.size) (.cells #[.slice none 0 0,.int .i64 0,.int .i64 0] 41);have P6:PBox (w6.alloc (.cells #[.slice none 0 0,.int .i64 0,.int .i64 0] 41)) kp p Va Ab vc cb:=alloc_blk _ (below_blk hb6 P5 (blk_lt P5));have F6:=alloc_blk (.cells #[.slice none 0 0,.int .i64 0,.int .i64 0] 41) (below_blk hb6 F5 (blk_lt F5));have C6:=heap_alloc_new w6 (.cells #[.slice none 0 0,.int .i64 0,.int .i64 0] 41);have hE6:=hE1.below ((Below.refl w6.heap.size w6).alloc (Nat.le_refl _) (.cells #[.slice none 0 0,.int .i64 0,.int .i64 0] 41));clear p0 p1 p2 p3 f0 f1 f2;obtain⟨p0,p1,p2,p3⟩:=P6.cells)
   |(go_at_call 22;refine (HMe _ hb7).mono ?_;rintro e w7 ⟨vm,v2,rfl,hE2,hm2,hm3,hb8⟩;obtain rfl:=hm2 HCK.out;have hb9:=hb7.trans (lower_below hb8 hb7.size);have hE7:=hE6.below hb8;have P7:PBox w7 kp p Va Ab vc cb:=below_blk hb8 P6 (blk_lt P6);have F7:=below_blk hb8 F6 (blk_lt F6);have C7:=below_blk hb8 C6 (blk_lt C6);clear p0 p1 p2 p3;have f0:w7.cell? ⟨kf,0,none⟩=some (.int .i64 F.code):=(cell_blk F7 _).trans rfl;have f1:w7.cell? ⟨kf,1,none⟩=some (.bool F.placed):=(cell_blk F7 _).trans rfl;have f2:w7.cell? ⟨kf,2,none⟩=some (.int .i64 F.pos):=(cell_blk F7 _).trans rfl;have HSa1:=HSa _ hb9 _ hE7)
   |(go_at_call 23;refine HSa1.mono ?_;rintro e w8 ⟨rfl,hb10⟩;have hb11:=hb9.trans (lower_below hb10 hb9.size);have F8:=below_blk hb10 F7 (blk_lt F7);have C8:=below_blk hb10 C7 (blk_lt C7);clear f0 f1 f2 HSa1;have f0:w8.cell? ⟨kf,0,none⟩=some (.int .i64 F.code):=(cell_blk F8 _).trans rfl;have f1:w8.cell? ⟨kf,1,none⟩=some (.bool F.placed):=(cell_blk F8 _).trans rfl;have f2:w8.cell? ⟨kf,2,none⟩=some (.int .i64 F.pos):=(cell_blk F8 _).trans rfl;have HSa2:=HSa _ hb11 _ (hE2.below hb10))
   |(go_at_call 23;refine HSa2.mono ?_;rintro e w9 ⟨rfl,hb12⟩;have hb13:=hb11.trans (lower_below hb12 hb11.size);have C9:=below_blk hb12 C8 (blk_lt C8);have c0:w9.cell? ⟨w6.heap.size,0,none⟩=some (.slice none 0 0):=(cell_blk C9 _).trans rfl))
  exact bodyPost_ret (v:= .bool true) (by simp [results,Tryz.results6,go_sem]) rfl ⟨rfl,hb13⟩
 have hFi:Al.Fine p:=Al.fine_of_check hck
 have hFf:F= .fine:=(show F=_ from hF).trans hFi.check
 rw [hFf] at F5 f0 f1 f2
 replace F5:W5.heap[kf]?=some (.cells #[.int .i64 0,.bool false,.int .i64 0] 36 (0,0)):=F5
 replace f0:W5.cell? ⟨kf,0,none⟩=some (.int .i64 0):=f0
 replace f1:W5.cell? ⟨kf,1,none⟩=some (.bool false):=f1
 replace f2:W5.cell? ⟨kf,2,none⟩=some (.int .i64 0):=f2
 clear hF hFf
 obtain⟨CI,hCI⟩:∃ CI,CI=Al.insts (codeP p):=⟨_,rfl⟩
 obtain⟨sp,hsp⟩:∃ sp,sp=Al.spansOf (codeP p):=⟨_,rfl⟩
 obtain⟨M,hM⟩:∃ M,M=(envP p).mem:=⟨_,rfl⟩
 have HL:=fun w0 hb=>lower_fine_x (S.below hb) hFi ((show PLies w p Va Ab vc cb from HP).below (w':=w0) hb)
 rw [<-hM,<-hCI,<-hsp,<-Al.insts_length (codeP p),<-hCI] at HL
 unfold progV at HL
 obtain⟨FM,hFM⟩:∃ FM,FM=memoryF p mem ins tape:=⟨_,rfl⟩
 obtain⟨mw,hmw⟩:∃ mw,mw=Al.memF p mem ins tape:=⟨_,rfl⟩
 have HMe2:=fun (w0:World) (hb:Below w.heap.size w w0)=>(HMe w0 hb).mono (fun e w' h=>MemX.shape h)
 rw [<-hFM,<-hmw] at HMe2
 have HS1:=fun (w0:World) (hb:Below w.heap.size w w0)=>see_same (S.below hb) (A:=A) (f:= .fine) (v:=Value.nilIface) (.inl ⟨rfl,rfl⟩) rfl .fine
 unfold faultV at HS1
 simp only [decide_true] at HS1
 replace HS1:∀ (w0:World),Below w.heap.size w w0->Calls Tryz.prog 23 #[Value.nilIface,.agg #[.int .i64 0,.bool false,.int .i64 0]] w0 fun e w'=>e= .returned (.bool true)/\Below w0.heap.size w0 w':=HS1
 replace hCI:=Lib.hid hCI
 replace hsp:=Lib.hid hsp
 replace hM:=Lib.hid hM
 replace hFM:=Lib.hid hFM
 replace hmw:=Lib.hid hmw
 clear HMe
 go_upto_region 9 with (first
  |(go_at_call 10;refine (HL _ hb5).mono ?_;rintro e w6 ⟨vi,vs,rfl,h1,h2,hb6⟩;obtain⟨ia,ic2,rfl⟩:=own_slice h1;obtain⟨sa,sc2,rfl⟩:=own_slice h2;have hb7:=(hb5.trans (lower_below hb6 hb5.size)).alloc (Nat.le_trans hb5.size hb6.size) (.cells #[.slice ia CI.length ic2,.int .i64 24,.int .i64 M] 41);have P6:PBox (w6.alloc (.cells #[.slice ia CI.length ic2,.int .i64 24,.int .i64 M] 41)) kp p Va Ab vc cb:=alloc_blk _ (below_blk hb6 P5 (blk_lt P5));have F6:=alloc_blk (.cells #[.slice ia CI.length ic2,.int .i64 24,.int .i64 M] 41) (below_blk hb6 F5 (blk_lt F5));have C6:=heap_alloc_new w6 (.cells #[.slice ia CI.length ic2,.int .i64 24,.int .i64 M] 41);have O6:=h1.alloc (.cells #[.slice ia CI.length ic2,.int .i64 24,.int .i64 M] 41);clear p0 p1 p2 p3 f0 f1 f2;obtain⟨p0,p1,p2,p3⟩:=P6.cells)
  |(go_at_call 22;refine (HMe2 _ hb7).mono ?_;rintro e w7 ⟨ma,ml,mc,gv,rfl,hE2,hm2,hm3,hb8⟩;have hb9:=hb7.trans (lower_below hb8 hb7.size)))
 obtain⟨kc,hkc⟩:∃ kc,kc=w6.heap.size:=⟨_,rfl⟩
 rw [<-hkc] at C6
 have Y0:SY w w7 A kp kf kc W5.heap.size (w6.alloc (.cells #[.slice ia CI.length ic2,.int .i64 24,.int .i64 M] 41)).heap.size p Va Ab vc cb ia ic2 CI M FM gv ma ml mc mw:=⟨below_blk hb8 P6 (blk_lt P6),below_blk hb8 F6 (blk_lt F6),below_blk hb8 C6 (blk_lt C6),own_of O6 fun k hk=>hb8.block k (O6.lt k hk).2,hE2,fun e=>(hm3 e).2.2,hb9⟩
 have hm3':FM.code=0->ml=mem.toNat/\ml<=mc:=fun e=>⟨(hm3 e).1,(hm3 e).2.1⟩
 obtain⟨b1,hb1⟩:∃ b1,b1=W5.heap.size:=⟨_,rfl⟩
 obtain⟨b2,hb2⟩:∃ b2,b2=(w6.alloc (.cells #[.slice ia CI.length ic2,.int .i64 24,.int .i64 M] 41)).heap.size:=⟨_,rfl⟩
 rw [<-hb1,<-hb2] at Y0
 simp only [<-hkc]
 clear hm3 hb1 hb2 hkc P5 P6 F5 F6 C6 O6 h1 h2 hE2 hb5 hb6 hb7 hb8 hb9 p0 p1 p2 p3 HL HMe2
 have hring:Al.ringOk p.q p.n=true:=by unfold Al.ringOk;rw [hFi.prime,hFi.size];rfl
 have hvl:=hFi.vars
 have hn:=hFi.n
 obtain⟨en,hen,hen2,hen3⟩:=end_nat hFi
 have hEv:=Al.env_ok hFi
 have hMe:(en:Int)+4096<=M/\M<=65536:=by
  have h1:=Al.endF_eq (bits:=Al.bitsOf p.q) hFi
  have h2:M=(envP p).mem:=hM
  have h3:(envP p).mem=(Al.envOf p (Al.bitsOf p.q)).fin+4096+(Al.envOf p (Al.bitsOf p.q)).n:=rfl
  have h4:(Al.envOf p (Al.bitsOf p.q)).mem<=65536:=hEv.mem_le
  have h5:(envP p).mem=(Al.envOf p (Al.bitsOf p.q)).mem:=rfl
  omega
 have HTp:=fun w0=>ref_tape w0 p Va Ab vc cb (by omega) (by omega)
 unfold progV at HTp
 rw [<-hen] at HTp
 have HTl:=fun w0=>lower_tape w0 p.q p.n Va p.vars.length vc Ab p.body.length cb hring hvl
 rw [hen3] at HTl
 obtain⟨k1,k2⟩:=Al.codes_ok hFi (len:=lenP p) rfl
 have hCl:CI.length=(codeP p).length:=by rw [show CI=_ from hCI,Al.insts_length]
 have hok:∀ i∈CI,Al.okI CI.length i:=fun i hi=>by rw [hCl];exact k1 i (show i∈Al.insts (codeP p) by rw [<-show CI=_ from hCI];exact hi)
 have hC6:CI.length<=262144:=by
  have h1:=Al.genL_le (envP p) 0 0 p.body 0 (Al.bodyP p.body)
  have h2:=hFi.flat
  have h3:Al.bodyP p.body<=4:=by unfold Al.bodyP;split<;> omega
  have h4:lenP p=Al.bodyP p.body+(Al.genL (envP p) 0 0 0 (Al.bodyP p.body) p.body).length:=rfl
  have h5:(codeP p).length<=lenP p+3:=k2
  omega
 have HVd:=fun (w0:World) (h:w0.ownsRow b1 97 6 (.slice ia CI.length ic2) CI.length (instsV CI))=>words_valid h hok hC6 (M:=(M:Int)) ⟨by omega,by omega⟩
 obtain⟨T,hT⟩:∃ T:Nat,T=en+4096:=⟨_,rfl⟩
 have hT1:T<=en+4096:=by omega
 have hT2:en+4096<=T:=by omega
 have wen:IntKind.i64.wrap ((en:Int)+4096)=(T:Int):=by rw [IntWalk.i64_in _ (by omega)];omega
 clear hT
 have z1:decide ((M:Int)<(T:Int))=false:=decide_eq_false (by omega)
 have z1':decide (M<T)=false:=decide_eq_false (by omega)
 have z2:decide (65536<(M:Int))=false:=decide_eq_false (by omega)
 have z3:((CI.length:Int) !=(CI.length:Int))=false:=by simp
 have z4:((en:Int) !=(en:Int))=false:=by simp
 have hend:=Lib.hid hen
 have hMH:=Lib.hid hMe
 clear hen hen3 k1 k2 hMe hCl
 obtain⟨p0,p1,p2,p3,f0,f1,f2,c0,c1,c2⟩:=Y0.cells
 go_wp2_with (first
  |(go_at_call 23;refine (HS1 _ Y0.b).mono ?_;rintro e w8 ⟨rfl,hb⟩;replace Y0:=Y0.below hb;clear p0 p1 p2 p3 f0 f1 f2 c0 c1 c2 hb;obtain⟨p0,p1,p2,p3,f0,f1,f2,c0,c1,c2⟩:=Y0.cells)
  |(go_at_call 24;refine (HTp _).mono ?_;rintro e w9 ⟨rfl,hb⟩;replace Y0:=Y0.below hb;clear p0 p1 p2 p3 f0 f1 f2 c0 c1 c2 hb;obtain⟨p0,p1,p2,p3,f0,f1,f2,c0,c1,c2⟩:=Y0.cells))
 have Y1:=Y0
 go_region_held3 (fun w'=>w'.cell? ⟨kp,0,none⟩=some (.int .i64 p.q)/\w'.cell? ⟨kp,1,none⟩=some (.int .i64 p.n)/\w'.cell? ⟨kp,2,none⟩=some (.slice Va p.vars.length vc)/\w'.cell? ⟨kp,3,none⟩=some (.slice Ab p.body.length cb)/\w'.cell? ⟨kc,0,none⟩=some (.slice ia CI.length ic2)/\w'.cell? ⟨kc,1,none⟩=some (.int .i64 24)/\w'.cell? ⟨kc,2,none⟩=some (.int .i64 M)) (first|with_reducible exact Y1.c7|with_reducible exact Y1.drew.c7) (first
  |(go_at_call 25;(first|with_reducible refine (HVd _ Y1.drew.O).mono ?_|with_reducible refine (HVd _ Y1.O).mono ?_);rintro e w10 ⟨rfl,g1⟩;(first|with_reducible replace Y1:=Y1.drew.below g1|with_reducible replace Y1:=Y1.below g1);(try clear p0 p1 p2 p3 f0 f1 f2 c0 c1 c2);obtain⟨p0,p1,p2,p3,c0,c1,c2⟩:=Y1.c7)
  |(go_at_call 26;refine (HTl _).mono ?_;rintro e w11 ⟨rfl,g1⟩;(first|with_reducible replace Y1:=Y1.drew.below g1|with_reducible replace Y1:=Y1.below g1);(try clear p0 p1 p2 p3 f0 f1 f2 c0 c1 c2);obtain⟨p0,p1,p2,p3,c0,c1,c2⟩:=Y1.c7)
  |(go_at_call 24;refine (HTp _).mono ?_;rintro e w12 ⟨rfl,g1⟩;(first|with_reducible replace Y1:=Y1.drew.below g1|with_reducible replace Y1:=Y1.below g1);(try clear p0 p1 p2 p3 f0 f1 f2 c0 c1 c2);obtain⟨p0,p1,p2,p3,c0,c1,c2⟩:=Y1.c7))
 obtain⟨-, -, -, -,f0,f1,f2, -, -, -⟩:=Y1.cells
 clear Y0 HVd HTl hok hC6 z1 z1' z2 z3 z4 HS1
 have hvl0:decide ((0:Int)<=v)=decide ((0:Int)<=v):=rfl
 by_cases hv:0<=v/\v<p.vars.length
 case' pos=>
  have HPr:=fun w0=>ref_place w0 p Va Ab vc cb v (by omega) (by omega)
  have HPl:=fun w0=>place_yes w0 p.q p.n v Va p.vars.length vc (.slice Ab p.body.length cb) hring hv.1 hv.2 hvl
  unfold progV at HPr
  rw [show Al.placeF p v=2+p.n * v by show 2+v * p.n=_;rw [Int.mul_comm]] at HPr
  obtain⟨at_,hat⟩:∃ at_,at_=2+p.n * v:=⟨_,rfl⟩
  rw [<-hat] at HPr HPl
  clear hat
  have y0:decide ((0:Int)<=v)=true:=decide_eq_true hv.1
  have y1:decide (v<(p.vars.length:Int))=true:=decide_eq_true hv.2
  have y2:(at_ !=at_)=false:=by simp
  clear hv
  go_upto_region 21 with (first
   |(go_at_call 27;refine (HPr _).mono ?_;rintro e w13 ⟨rfl,hb⟩;replace Y1:=Y1.below hb;clear p0 p1 p2 p3 f0 f1 f2 c0 c1 c2 hb;obtain⟨p0,p1,p2,p3,f0,f1,f2,c0,c1,c2⟩:=Y1.cells)
   |(go_at_call 28;refine (HPl _).mono ?_;rintro e w14 ⟨rfl,hb⟩;replace Y1:=Y1.below hb;clear p0 p1 p2 p3 f0 f1 f2 c0 c1 c2 hb;obtain⟨p0,p1,p2,p3,f0,f1,f2,c0,c1,c2⟩:=Y1.cells))
  clear HPr HPl y0 y1 y2
 case' neg=>
  have HPl:=fun w0=>place_out w0 p.q p.n v Va p.vars.length vc (.slice Ab p.body.length cb) hring (by omega)
  have y0:(decide ((0:Int)<=v) && decide (v<(p.vars.length:Int)))=false:=by by_cases h:0<=v<;> simp [h]<;> omega
  have y2:((0:Int) !=0)=false:=by decide
  by_cases hv0:0<=v
  case' pos=>(have y3:decide ((0:Int)<=v)=true:=decide_eq_true hv0;have y4:decide (v<(p.vars.length:Int))=false:=decide_eq_false (by omega))
  case' neg=>(have y3:decide ((0:Int)<=v)=false:=decide_eq_false hv0)
  all_goals clear hv hv0
  all_goals go_upto_region 21 with (first
   |(go_at_call 28;refine (HPl _).mono ?_;rintro e w14 ⟨rfl,hb⟩;replace Y1:=Y1.below hb;clear p0 p1 p2 p3 f0 f1 f2 c0 c1 c2 hb;obtain⟨p0,p1,p2,p3,f0,f1,f2,c0,c1,c2⟩:=Y1.cells))
  all_goals clear HPl y0 y2 y3
 all_goals
  have hFMv:FM=(if mem<Al.endF p+4096\/mem > 65536 then .bare 101 else Al.inputsF p.q p.n p.vars ins tape 0):=by rw [show FM=memoryF p mem ins tape from hFM];unfold memoryF;rw [if_neg (by simp [hck])]
  rw [<-show (en:Int)=Al.endF p from hend] at hFMv
  by_cases m1:mem<(en:Int)+4096\/mem > 65536
  ·rw [if_pos m1] at hFMv
   obtain⟨hma,hml,hmc⟩:=hm2 (by rw [hFMv];decide)
   subst hma hml hmc
   have HIs:=see_is (S.below Y1.b) Y1.E Y1.E.one 101
   rw [show decide (FM=Al.Fault.bare 101)=true by rw [hFMv];exact decide_eq_true rfl] at HIs
   have zl:(((0:Nat):Int) == 0)=true:=rfl
   have zl2:((0:Int) == 0)=true:=rfl
   by_cases m2:mem<(en:Int)+4096
   ·have x1:decide (mem<(T:Int))=true:=decide_eq_true (by omega)
    clear hFMv m1 m2
    go_wp2_with (first|(go_at_call 29;refine HIs.mono ?_;rintro e w20 ⟨rfl,hb⟩;have hbb:=Y1.b.trans (lower_below hb Y1.b.size)))
    exact bodyPost_ret (v:= .bool true) (by simp [results,Tryz.results6,go_sem]) rfl ⟨rfl,hbb⟩
   ·have x1:decide (mem<(T:Int))=false:=decide_eq_false (by omega)
    have x2:decide (65536<mem)=true:=decide_eq_true (by omega)
    clear hFMv m1 m2
    go_wp2_with (first|(go_at_call 29;refine HIs.mono ?_;rintro e w20 ⟨rfl,hb⟩;have hbb:=Y1.b.trans (lower_below hb Y1.b.size)))
    exact bodyPost_ret (v:= .bool true) (by simp [results,Tryz.results6,go_sem]) rfl ⟨rfl,hbb⟩
  rw [if_neg m1] at hFMv
  have x1:decide (mem<(T:Int))=false:=decide_eq_false (by omega)
  have x2:decide (65536<mem)=false:=decide_eq_false (by omega)
  obtain⟨mm,rfl⟩:∃ mm:Nat,mem=mm:=⟨mem.toNat,by omega⟩
  have x1':decide (mm<T)=false:=decide_eq_false (by omega)
  have HIn:=fun (w0:World) (hb:Below w.heap.size w w0)=>ref_inputs (w:=w0) (q:=p.q) (n:=p.n) (vc:=vc) (ic:=ic) (tc:=sc) (Ta:=Sa) (tape:=tape) 0 (Kd.C_below (show PLies w p Va Ab vc cb from HP).v hb) (by omega) (Kd.C_below (show Kd.C (Kd.slice 3 (Kd.int .i64)) w Ia ins.length ins from HAA) hb) (by omega)
  rw [<-hFMv] at HIn
  unfold faultV at HIn
  replace hFMv:=Lib.hid hFMv
  have HSa:=fun (w0:World) (hb:Below w.heap.size w w0) (h:ErrAt w0 A FM gv)=>see_same (S.below hb) h h.one FM
  simp only [decide_true] at HSa
  unfold faultV at HSa
  go_upto_region 24 with (first
   |(go_at_call 21;refine (HIn _ Y1.b).mono ?_;rintro e w15 ⟨rfl,hb⟩;replace Y1:=Y1.below hb))
  refine gen_world (Q:=fun W=>Code.wp _ _ _ _ W) _ (fun W=>SY w W A kp kf kc b1 b2 p Va Ab vc cb ia ic2 CI M FM gv ma ml mc mw/\W.heap[w15.heap.size]?=some (.cells #[.int .i64 FM.code,.bool FM.placed,.int .i64 FM.pos] 36 (0,0))) ⟨Y1.below ((Below.refl _ _).alloc (Nat.le_refl _) _),heap_alloc_new w15 _⟩ ?_
  obtain⟨kh,hkh⟩:∃ kh,kh=w15.heap.size:=⟨_,rfl⟩
  simp only [<-hkh]
  clear hkh Y1 HIn hb p0 p1 p2 p3 f0 f1 f2 c0 c1 c2
  rintro W16 ⟨Y1,H1⟩
  have h0:W16.cell? ⟨kh,0,none⟩=some (.int .i64 FM.code):=(cell_blk H1 _).trans rfl
  have h1:W16.cell? ⟨kh,1,none⟩=some (.bool FM.placed):=(cell_blk H1 _).trans rfl
  have h2:W16.cell? ⟨kh,2,none⟩=some (.int .i64 FM.pos):=(cell_blk H1 _).trans rfl
  by_cases g1:FM.code=0
  case neg=>
   obtain⟨hma,hml,hmc⟩:=hm2 g1
   subst hma hml hmc
   have zl:(((0:Nat):Int) == 0)=true:=rfl
   have zl2:((0:Int) == 0)=true:=rfl
   have e1:(FM.code !=0)=true:=by simp [g1]
   have e1':(FM.code == 0)=false:=by simp [g1]
   have HSa1:=HSa _ Y1.b Y1.E
   clear g1 hFMv m1
   go_wp2_with (first
    |(go_at_call 23;refine HSa1.mono ?_;rintro e w17 ⟨rfl,hb⟩;replace Y1:=Y1.below hb;replace H1:=below_blk hb H1 (blk_lt H1);clear h0 h1 h2 HSa1;have h0:w17.cell? ⟨kh,0,none⟩=some (.int .i64 FM.code):=(cell_blk H1 _).trans rfl;have h1:w17.cell? ⟨kh,1,none⟩=some (.bool FM.placed):=(cell_blk H1 _).trans rfl;have h2:w17.cell? ⟨kh,2,none⟩=some (.int .i64 FM.pos):=(cell_blk H1 _).trans rfl;have HSa2:=HSa _ Y1.b Y1.E)
    |(go_at_call 23;refine HSa2.mono ?_;rintro e w18 ⟨rfl,hb9⟩;have hbb:=Y1.b.trans (lower_below hb9 Y1.b.size)))
   exact bodyPost_ret (v:= .bool true) (by simp [results,Tryz.results6,go_sem]) rfl ⟨rfl,hbb⟩
  have hfm:=Y1.E.fault g1
  have HSa1:=HSa _ Y1.b Y1.E
  rw [hfm] at h0 h1 h2 HSa1
  replace h0:W16.cell? ⟨kh,0,none⟩=some (.int .i64 0):=h0
  replace h1:W16.cell? ⟨kh,1,none⟩=some (.bool false):=h1
  replace h2:W16.cell? ⟨kh,2,none⟩=some (.int .i64 0):=h2
  replace HSa1:Calls Tryz.prog 23 #[gv,.agg #[.int .i64 0,.bool false,.int .i64 0]] W16 fun e w'=>e= .returned (.bool true)/\Below W16.heap.size W16 w':=HSa1
  have hIO:Al.InOk p ins tape:=Al.inOk_of (fuel:=0) (by rw [<-show FM=_ from hFMv];exact g1)
  obtain⟨hml,hmc⟩:=hm3' g1
  replace hml:mm=ml:=by rw [hml];rfl
  subst hml
  have henb:(en:Int)+4096<=mm/\mm<=65536:=by omega
  have hV:=mem_vars hFi hIO HSS.out.2 (mem:=mm) (by rw [<-show (en:Int)=_ from hend];exact henb.1)
  simp only [<-show mw=Al.memF p mm ins tape from hmw] at hV
  obtain⟨K,hK⟩:∃ K,K=Al.kindsOf p.vars 2:=⟨_,rfl⟩
  obtain⟨V,hVv⟩:∃ V,V=Al.Vof (Al.V0 p ins):=⟨_,rfl⟩
  obtain⟨n,hnn⟩:∃ n,n=p.n.toNat:=⟨_,rfl⟩
  rw [<-hVv] at hV
  have HO1:∀ (w0:World),SY w w0 A kp kf kc b1 b2 p Va Ab vc cb ia ic2 CI M FM gv ma mm mc mw->Calls Tryz.prog 30 #[.agg #[.int .i64 p.q,.int .i64 p.n,.slice Va p.vars.length vc,.slice Ab p.body.length cb],.slice ma mm mc] w0 fun e w'=>∃ a c,e= .returned (.tuple #[.slice a K.length c,Value.nilIface])/\Below w0.heap.size w0 w'/\OutsAt w' w0.heap.size (.slice a K.length c) K n V:=by
   intro w0 Y
   have h:=lower_outs (S.below Y.b) ((show PLies w p Va Ab vc cb from HP).below Y.b) hFi (by rw [<-show (en:Int)=_ from hend];exact henb.1) henb.2 hmc (Y.R g1) hV
   unfold progV at h
   refine h.mono ?_
   rintro e w' ⟨vo,rfl,hb,hO⟩
   rw [<-hK,<-hnn] at hO
   obtain⟨os,ho,hr⟩:=hO
   obtain⟨a,c,rfl⟩:=own_slice ho
   exact⟨a,c,rfl,hb,os,ho,hr⟩
  have HO2:∀ (w0:World),SY w w0 A kp kf kc b1 b2 p Va Ab vc cb ia ic2 CI M FM gv ma mm mc mw->∀ (L c:Nat),(L:Int)<(en:Int)+4096->Calls Tryz.prog 30 #[.agg #[.int .i64 p.q,.int .i64 p.n,.slice Va p.vars.length vc,.slice Ab p.body.length cb],.slice ma L c] w0 fun e w'=>e= .returned (.tuple #[.slice none 0 0,sv A 2])/\Below w0.heap.size w0 w':=by
   intro w0 Y L c hL
   have h:=lower_outs_short (S.below Y.b) (ma:=ma) (mc:=c) (M:=L) ((show PLies w p Va Ab vc cb from HP).below Y.b) hFi (by rw [<-show (en:Int)=_ from hend];exact hL)
   unfold progV at h
   exact h
  have HO3:∀ (w0:World),SY w w0 A kp kf kc b1 b2 p Va Ab vc cb ia ic2 CI M FM gv ma mm mc mw->Calls Tryz.prog 15 #[.agg #[.int .i64 p.q,.int .i64 p.n,.slice Va p.vars.length vc,.slice Ab p.body.length cb],.slice ma mm mc] w0 fun e w'=>∃ a c,e= .returned (.tuple #[.slice a K.length c,.bool true])/\Below w0.heap.size w0 w'/\OutsAt w' w0.heap.size (.slice a K.length c) K n V:=by
   intro w0 Y
   refine (ref_outs ((show PLies w p Va Ab vc cb from HP).below Y.b) (by omega) (by omega) (by have:=hFi.q;omega) henb.2 (Y.R g1) hV).mono ?_
   rintro e w' ⟨vo,rfl,hb,hO⟩
   rw [<-hK,<-hnn] at hO
   obtain⟨os,ho,hr⟩:=hO
   obtain⟨a,c,rfl⟩:=own_slice ho
   exact⟨a,c,rfl,hb,os,ho,hr⟩
  have HRM:∀ (w0:World),Below w.heap.size w w0->Calls Tryz.prog 11 #[.agg #[.int .i64 p.q,.int .i64 p.n,.slice Va p.vars.length vc,.slice Ab p.body.length cb],.int .i64 mm,.slice Ia ins.length ic,.slice Sa tape.length sc] w0 fun e w'=>∃ a c,e= .returned (.slice a mm c)/\w'.ownsRow w0.heap.size 56 1 (.slice a mm c) mm (wordsV mw)/\Below w0.heap.size w0 w':=by
   intro w0 hb
   have h:=ref_memory (ic:=ic) (tc:=sc) (Ta:=Sa) (tape:=tape) (mem:=mm) ((show PLies w p Va Ab vc cb from HP).below hb) hFi hIO (Kd.C_below (show Kd.C (Kd.slice 3 (Kd.int .i64)) w Ia ins.length ins from HAA) hb) (Kd.C_below HSS.out.1 hb) HSS.out.2 (by rw [<-show (en:Int)=_ from hend];exact henb.1) henb.2
   unfold progV at h
   refine h.mono ?_
   rintro e w' ⟨vo,rfl,ho,hb⟩
   rw [<-show mw=Al.memF p mm ins tape from hmw] at ho
   obtain⟨a,c,rfl⟩:=own_slice ho
   exact⟨a,c,rfl,ho,hb⟩
  have hK12:K.length<=1000:=by rw [hK];have:=kindsFrom_len p.vars 2 0;unfold Al.kindsOf;omega
  have hn256:n<=256:=by omega
  replace hK:=Lib.hid hK
  replace hVv:=Lib.hid hVv
  replace hnn:=Lib.hid hnn
  have hml2:mw.length=mm:=by have:=own_one (Y1.R g1);simpa [wordsV] using this
  obtain⟨gm,hma, -, -⟩:=words_get (Y1.R g1) (j:=0) (by omega) hml2.symm
  clear hm2 hm3'
  subst hma
  have G1:=Lib.hid g1
  clear g1
  replace hfm:=Lib.hid hfm
  replace hml2:=Lib.hid hml2
  clear hV H1
  obtain⟨p0,p1,p2,p3, -⟩:=Y1.c7
  go_upto_region 27 with (first
   |(go_at_call 23;refine HSa1.mono ?_;rintro e w17 ⟨rfl,hb⟩;replace Y1:=Y1.below hb;have h0':=cell_since hb h0;clear HSa1 h0 h1 h2 p0 p1 p2 p3;obtain⟨p0,p1,p2,p3, -⟩:=Y1.c7)
   |(go_at_call 30;refine (HO1 _ Y1).mono ?_;rintro e w18 ⟨oa,oc,rfl,hb,hO1⟩;replace Y1:=Y1.below hb;clear p0 p1 p2 p3;obtain⟨p0,p1,p2,p3, -⟩:=Y1.c7))
  obtain⟨T1,hT3⟩:∃ T1:Nat,(T1:Int)=(T:Int) - 1:=⟨T - 1,by omega⟩
  have wen2:IntKind.i64.wrap ((T:Int) - 1)=(T1:Int):=by rw [IntWalk.i64_in _ (by omega)];omega
  have l0:(0:Int)<=(T1:Int):=by omega
  have l1:(T1:Int)<=(mc:Int):=by omega
  have l5:(T1:Int)<(en:Int)+4096:=by omega
  clear hT3
  have Y2:=Y1
  go_region_held3 (fun w'=>w'.cell? ⟨kp,0,none⟩=some (.int .i64 p.q)/\w'.cell? ⟨kp,1,none⟩=some (.int .i64 p.n)/\w'.cell? ⟨kp,2,none⟩=some (.slice Va p.vars.length vc)/\w'.cell? ⟨kp,3,none⟩=some (.slice Ab p.body.length cb)) (first|with_reducible exact Y2.c4|with_reducible exact Y2.drew.c4) (first
   |(go_at_call 30;refine (HO2 _ Y2.drew _ _ (by omega)).mono ?_;rintro e w19 ⟨rfl,g1⟩;have hO2:=(hO1.below (below_drew' (Below.refl _ _))).below g1;with_reducible replace Y2:=Y2.drew.below g1))
  go_wp2_with (first
   |(go_at_call 15;refine (HO3 _ Y2).mono ?_;rintro e w20 ⟨ra,rc,rfl,hb,hO3⟩;replace hO2:=hO2.below hb;replace Y2:=Y2.below hb;clear p0 p1 p2 p3;obtain⟨p0,p1,p2,p3⟩:=Y2.c4)
   |(go_at_call 11;refine (HRM _ Y2.b).mono ?_;rintro e w21 ⟨xa,xc,rfl,hx,hb⟩;replace hO2:=hO2.below hb;replace hO3:=hO3.below hb;replace Y2:=Y2.below hb;clear p0 p1 p2 p3)
   |(go_at_call 31;refine (same_words (Y2.R G1.out) hx (by omega)).mono ?_;rintro e w22 ⟨rfl,hb⟩;replace hO2:=hO2.below hb;replace hO3:=hO3.below hb;replace Y2:=Y2.below hb)
   |(go_at_call 16;refine (outs_same hO2 hO3 hK12 hn256).mono ?_;rintro e w23 ⟨rfl,hb⟩;replace Y2:=Y2.below hb)
   |(go_at_call 29;refine (see_is (S.below Y2.b) (bareAt (f:= .bare 102) (g:=2) (by decide) rfl) rfl 102).mono ?_;rintro e w24 ⟨rfl,hb⟩;have hbb:=Y2.b.trans (lower_below hb Y2.b.size)))
  exact bodyPost_ret (v:= .bool true) (by simp [results,Tryz.results6,go_sem]) rfl ⟨rfl,hbb⟩
end Go.Proofs.YtkplfaionpplaaaGreatDoor
namespace Go.Proofs.YtkplfaionpplaaaGreatDoor
open Go.RowKit Go.ChangeShapes Go.Proofs.YtkplfaionpplaaaGreatDoorW.PrintWords
theorem s_glob:∀ x∈[("alembic/api.ErrRange",0),("alembic/api.ErrLength",2),("alembic/api.ErrMany",1),("alembic/api.ErrShape",5),("alembic/api.ErrNone",8),("alembic/api.ErrOp",4),("alembic/api.ErrVar",7),("alembic/api.ErrSecret",3),("alembic/api.ErrLabel",6),("alembic/api.ErrFar",9),("alembic/api.ErrFuel",10),("alembic/api.ErrFault",11),("alembic/api.ErrWord",12),("alembic/api.ErrNumber",13)],
  Tryz.prog.globalNamed x.1=some x.2/\(Tryz.prog.globals[x.2]?).map (·.type)=some 44:=by
 intro x hx
 simp only [List.mem_cons,List.not_mem_nil,or_false] at hx
 rcases hx with rfl|rfl|rfl|rfl|rfl|rfl|rfl|rfl|rfl|rfl|rfl|rfl|rfl|rfl<;> exact⟨by kernel_rfl,by kernel_rfl⟩
theorem s_star: "*" ++ "errors.errorString" = "*errors.errorString" :=by decide
theorem s_row (u:TypeId)(h:Tryz.prog.typeName? 3 u=some "*errors.errorString"):u=205:=
 typeName_ptr_named (nm:= "errors.errorString") (by rw [s_star];kernel_rfl) (by kernel_rfl) (by decide) u (by rw [s_star];exact h)
theorem s_cells:Tryz.prog.cellsOf 222=1:=by kernel_rfl
theorem s_cell1:Tryz.prog.cellsOf 9=1:=by kernel_rfl
def placeA (a:Addr):MemPlace:= .cell a.block a.off
theorem sents_of {W:World}:∀ (l:List (String×List UInt8)) (gs:List Nat) (ps:List MemPlace),DataW.LaidVars Tryz.prog W (l.map fun x=>(x.1,.iface "*errors.errorString" (.ptr (.agg [.lit (.string x.2)])))) ps->gs.length=l.length->
  (∀ b off,MemPlace.cell b off∈ps->(∃ c t,W.heap[b]?=some (.cells c t (0,0)))/\∀ u v,W.cell? ⟨b,off,none⟩=some (.iface u v)->Value.okWide Tryz.prog W .any 0 u v)->
  (∀ x∈(l.map Prod.fst).zip gs,Tryz.prog.globalNamed x.1=some x.2/\(Tryz.prog.globals[x.2]?).map (·.type)=some 44)->
  ∃ lz:List Addr,lz.length=gs.length/\(lz.map placeA).Sublist ps/\∀ i (h:i<gs.length) (h2:i<lz.length),W.cell? ⟨gs[i],0,none⟩=some (.iface 205 (.pointer (some lz[i])))/\∃ c t,W.heap[(lz[i]).block]?=some (.cells c t (0,0))
 |[],gs,ps,_,hl,_,_=>⟨[],by rw [hl];rfl,List.nil_sublist _,fun i h=>by rw [hl] at h;cases h⟩
 |(n,text) :: l,gs,ps,hv,hl,hr,hg=>by
  obtain⟨g,gs,rfl⟩:∃ g r,gs=g :: r:=by cases gs with
   |nil=>simp at hl
   |cons g r=>exact⟨g,r,rfl⟩
  obtain⟨g0,t0,cs0,f0,p0,q0,hg0,ht0,hv0,hd0,hq,rfl⟩:=hv
  obtain⟨hg1,ht1⟩:=hg (n,g) (by simp)
  obtain rfl:=Option.some.inj (hg1.symm.trans hg0)
  obtain rfl:=Option.some.inj (ht1.symm.trans ht0)
  obtain⟨l0⟩:=cs0
  have ok0:∀ u v,l0=[.iface u v]->Value.okWide Tryz.prog W .any 0 u v:=fun u v e=>by
   subst e
   exact (hr g 0 (by simp [MemPlace.row])).2 u v (by simpa using World.var?_cell hg0 hv0 0)
  obtain⟨a0,s0,rfl,hc0,hs0,hz0,rfl⟩:=errorString_of_trod Tryz.underlying44 s_row Tryz.underlying205 Tryz.underlying222 rfl rfl Tryz.underlying9 s_cells s_cell1 hd0 ok0
  obtain⟨lz,h1,h2,h3⟩:=sents_of l gs q0 hq (by simpa using hl) (fun b off hm=>hr b off (List.mem_append_right _ hm)) (fun x hx=>hg x (by simp only [List.map_cons,List.zip_cons_cons];exact List.mem_cons_of_mem _ hx))
  refine⟨a0 :: lz,by simp [h1],?_,fun i h h'=>?_⟩
  ·have e:MemPlace.row a0 1=[placeA a0]:=by simp [MemPlace.row,placeA]
   rw [e,List.append_assoc]
   exact (List.Sublist.cons_cons _ h2).trans (List.sublist_append_right _ _)
  ·cases i with
   |zero=>exact⟨by simpa using World.var?_cell hg0 hv0 0,(hr a0.block a0.off (by simp [MemPlace.row])).1⟩
   |succ i=>exact h3 i (by simpa using h) (by simpa using h')
def sentL:List (String×List UInt8):=Rows.lowerSaysRow.laid.map fun x=>(x.1,match x.2 with| .iface _ (.ptr (.agg [.lit (.string s)]))=>s|_=>[])
theorem sentL_eq:Rows.lowerSaysRow.laid=sentL.map fun x=>(x.1,.iface "*errors.errorString" (.ptr (.agg [.lit (.string x.2)]))):=rfl
theorem sent_of {W:World}(h:laidMetH Tryz.prog Rows.lowerSaysRow.laid W):∃ A,Sent W A:=by
 rw [Go.MakeChecks.laidMetH_plain _ _ _ (by rfl)] at h
 obtain⟨ps,hv,hnd,hr⟩:=h
 rw [sentL_eq] at hv
 obtain⟨lz,h1,h2,h3⟩:=sents_of sentL [0,2,1,5,8,4,7,3,6,9,10,11,12,13] ps hv rfl hr (fun x hx=>s_glob x hx)
 have hnd2:(lz.map placeA).Nodup:=h2.nodup hnd
 have hlen:lz.length=14:=h1
 have hidx:∀ g,g<14->∃ i,i<14/\ordS i=g:=ordS_onto
 have hgs:∀ i,∀ (h:i<14),([0,2,1,5,8,4,7,3,6,9,10,11,12,13]:List Nat)[i]'h=ordS i:=by decide
 let inv:Nat->Nat:=fun g=>if g=0 then 0 else if g=2 then 1 else if g=1 then 2 else if g=5 then 3 else if g=8 then 4 else if g=4 then 5 else if g=7 then 6 else if g=3 then 7 else if g=6 then 8 else g
 have hinv:∀ g,g<14->inv g<14/\ordS (inv g)=g:=by decide
 refine⟨fun g=>lz.getD (inv g) ⟨0,0,none⟩,fun g hg=>?_,fun g k hg hk hne he=>?_,fun g hg=>?_⟩
 ·obtain⟨i1,i2⟩:=hinv g hg
  have h4:=(h3 (inv g) i1 (by omega)).1
  rw [hgs _ i1,i2] at h4
  rw [h4,List.getD_eq_getElem?_getD,List.getElem?_eq_getElem (by omega)]
  rfl
 ·obtain⟨i1,i2⟩:=hinv g hg
  obtain⟨j1,j2⟩:=hinv k hk
  have e1:lz.getD (inv g) ⟨0,0,none⟩=lz[inv g]:=by rw [List.getD_eq_getElem?_getD,List.getElem?_eq_getElem (by omega)];rfl
  have e2:lz.getD (inv k) ⟨0,0,none⟩=lz[inv k]:=by rw [List.getD_eq_getElem?_getD,List.getElem?_eq_getElem (by omega)];rfl
  rw [e1,e2] at he
  have hij:inv g≠inv k:=fun e=>hne (by rw [<-i2,<-j2,e])
  have hp:=(List.pairwise_iff_getElem.1 hnd2)
  rcases Nat.lt_or_gt_of_ne hij with hlt|hlt
  ·exact hp (inv g) (inv k) (by simp;omega) (by simp;omega) hlt (by simp [he])
  ·exact hp (inv k) (inv g) (by simp;omega) (by simp;omega) hlt (by simp [he])
 ·obtain⟨i1,i2⟩:=hinv g hg
  have h4:=(h3 (inv g) i1 (by omega)).2
  rw [List.getD_eq_getElem?_getD,List.getElem?_eq_getElem (by omega)]
  exact h4
end Go.Proofs.YtkplfaionpplaaaGreatDoor
namespace Go.Proofs.YtkplfaionpplaaaGreatDoor.Al
def VB (N:Nat)(x:RS):Prop:=∀ e∈x.evs,e.vec.length<=N
end Go.Proofs.YtkplfaionpplaaaGreatDoor.Al
set_option linter.unusedVariables false
namespace Go.Proofs.YtkplfaionpplaaaGreatDoor
open Go.RowKit Go.Proofs.YtkplfaionpplaaaGreatDoorW.PrintLast Go.Proofs.YtkplfaionpplaaaGreatDoorW.PrintWords
def RunAny (w:World)(p:Al.Prog)(ins:List (List Int))(tape:List Int)(F:Nat)(e:Ending)(w':World):Prop:=
 ((runF p ins tape F).code≠0/\e= .returned (.tuple #[.agg #[.int .i64 0,.slice none 0 0,.slice none 0 0,.int .i64 0,.int .i64 0],faultV (runF p ins tape F)])/\Below w.heap.size w w')\/
 ((Al.checkF p).code=0/\(Al.inputsF p.q p.n p.vars ins tape F).code=0/\RunPost w p (Al.exF p ins tape F) e w')
def RunU (w:World)(p:Al.Prog)(ins:List (List Int))(tape:List Int)(F:Nat)(e:Ending)(w':World):Prop:=
 ∃ (c st us:Int) (lo co le ce:Nat) (ao ae:Option Addr),e= .returned (.tuple #[.agg #[.int .i64 c,.slice ao lo co,.slice ae le ce,.int .i64 st,.int .i64 us],faultV (runF p ins tape F)])/\Below w.heap.size w w'/\
  ((runF p ins tape F).code=0->(Al.checkF p).code=0/\(Al.inputsF p.q p.n p.vars ins tape F).code=0/\c=(Al.exF p ins tape F).code/\st=(Al.exF p ins tape F).steps/\us=(Al.exF p ins tape F).used/\le=(Al.exF p ins tape F).evs.length/\
   ∃ es,w'.ownsRow w.heap.size 114 3 (.slice ae le ce) le es/\EvR w' w.heap.size (Al.exF p ins tape F).evs es)
theorem RunAny.u {w w':World}{p:Al.Prog}{ins:List (List Int)}{tape:List Int}{F:Nat}{e:Ending}(h:RunAny w p ins tape F e w'):RunU w p ins tape F e w':=by
 rcases h with⟨h1,rfl,h2⟩|⟨h1,h2,h3⟩
 ·exact⟨_,_,_,_,_,_,_,_,_,rfl,h2,fun h=>absurd h h1⟩
 ·obtain⟨vo,ve,es,rfl,⟨a,l,c,rfl⟩,h4,h5,h6, -⟩:=h3
  obtain⟨ae,ce,rfl⟩:=own_slice h4
  have hi:=inputs_fine h2
  have hr:runF p ins tape F= .fine:=by
   unfold runF
   rw [if_neg (by omega)]
   exact hi
  exact⟨_,_,_,_,_,_,_,_,_,by rw [hr];rfl,h6,fun _=>⟨h1,h2,rfl,rfl,rfl,rfl,es,h4,h5⟩⟩
end Go.Proofs.YtkplfaionpplaaaGreatDoor
