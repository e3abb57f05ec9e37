/- Part 25: B109, B70, B71, B72, B73, B74, B113, B75, B76, P32, P33, P35, B77, B78, P36, B79, P37, B80. -/
import Derived.Test.YtkplfaionpplaaaGreatDoorK24
set_option maxRecDepth 100000
set_option maxHeartbeats 6400000
set_option linter.unusedVariables false
set_option linter.unusedSimpArgs false
namespace Go.Proofs.YtkplfaionpplaaaGreatDoor
open Go.RowKit Go.Proofs.YtkplfaionpplaaaGreatDoorW.PrintWords Go.Proofs.YtkplfaionpplaaaGreatDoorW.PrintLast
def memoryF (p:Al.Prog)(mem:Int)(ins:List (List Int))(tape:List Int):Al.Fault:=
 if (Al.checkF p).code≠0 then Al.checkF p else if mem<Al.endF p+4096\/mem > 65536 then .bare 101 else Al.inputsF p.q p.n p.vars ins tape 0
def MemX (w w':World)(A:Nat->Addr)(p:Al.Prog)(mem:Int)(ins:List (List Int))(tape:List Int)(e:Ending):Prop:=
 ∃ vm v,e= .returned (.tuple #[vm,v])/\ErrAt w' A (memoryF p mem ins tape) v/\((memoryF p mem ins tape).code≠0->vm= .slice none 0 0)/\((memoryF p mem ins tape).code=0->w'.ownsRow w.heap.size 56 1 vm mem.toNat (wordsV (Al.memF p mem ins tape)))/\Below w.heap.size w w'
theorem MemX.no {w w':World}{A:Nat->Addr}{p:Al.Prog}{mem:Int}{ins:List (List Int)}{tape:List Int}{F:Al.Fault}(h:memoryF p mem ins tape=F)(hF:F.code≠0){v:Value}(hE:ErrAt w' A F v)(hb:Below w.heap.size w w'):MemX w w' A p mem ins tape (.returned (.tuple #[.slice none 0 0,v])):=
 ⟨_,_,rfl,by rw [h];exact hE,fun _=>rfl,fun hc=>absurd (by rw [<-h];exact hc) hF,hb⟩
theorem memory_any {w:World}{A:Nat->Addr}(S:Sent w A){p:Al.Prog}{Va Ab Ia Ta:Option Addr}{vc cb ic tc:Nat}{ins:List (List Int)}{tape:List Int}{mem:Int}(hp:PLies w p Va Ab vc cb)(hvl0:p.vars.length<=1000)(hfl:(Al.flatL p.body).length<=100)
  (hi:Kd.C (Kd.slice 3 (Kd.int .i64)) w Ia ins.length ins) (hil:ins.length<=1000000) (ht:(Kd.int .u32).C w Ta tape.length tape) (ht0:∀ x∈tape,0<=x/\x<4294967296):
  Calls Tryz.prog 22 #[progV p Va Ab vc cb,.int .i64 mem,.slice Ia ins.length ic,.slice Ta tape.length tc] w fun e w'=>MemX w w' A p mem ins tape e:=by
 obtain⟨j0,hj0,jz0,jz1,jz2⟩:=info_parts Tryz.infoU64
 obtain⟨W,hW⟩:∃ W,W=w.alloc (.cells #[.int .i64 p.q,.int .i64 p.n,.slice Va p.vars.length vc,.slice Ab p.body.length cb] 27):=⟨_,rfl⟩
 have hb0:Below w.heap.size w W:=by rw [hW];exact (Below.refl _ _).alloc (Nat.le_refl _) _
 obtain⟨kp,hkp⟩:∃ kp,kp=w.heap.size:=⟨_,rfl⟩
 have P0:PBox W kp p Va Ab vc cb:=by rw [hW,hkp];exact heap_alloc_new w _
 obtain⟨p0,p1,p2,p3⟩:=P0.cells
 have HC:=sec_check_x (S.below hb0) hvl0 hfl (hp.below hb0)
 have HGi:=fun (W0:World) (hb:Below w.heap.size w W0)=>eval_given (S.below hb) (q:=p.q) (n:=p.n) (vc:=vc) (ic:=ic) (tc:=tc) (Ta:=Ta) (tape:=tape) (.slice Ab p.body.length cb) rfl (Kd.C_below hp.v hb) hvl0 (Kd.C_below hi hb) hil
 unfold progV at HC
 go_enter Tryz.func22,Tryz.ntmps22
 unfold progV
 go_upto_region 1 with (fail)
 rw [<-hW]
 simp only [<-hkp]
 replace hkp:=Lib.hid hkp
 clear hW
 by_cases hck:(Al.checkF p).code=0
 case neg=>
  go_wp2_with (first|(go_at_call 36;refine HC.mono ?_;rintro e w1 ⟨v,rfl,hE1,hb1⟩;obtain⟨t,a,rfl,hta⟩:=hE1.held hck;replace hE1:=Lib.hid hE1;have hb2:=hb0.trans (lower_below hb1 hb0.size)))
  exact bodyPost_ret (v:= .tuple #[.slice none 0 0,.iface t (.pointer (some a))]) (by simp [results,Tryz.results22,go_sem]) rfl (MemX.no (F:=Al.checkF p) (by unfold memoryF;rw [if_pos hck]) hck hE1 hb2)
 have hF:=Al.fine_of_check hck
 have hq:=hF.q
 have hn:=hF.n
 have hvl:=hF.vars
 have hring:Al.ringOk p.q p.n=true:=by unfold Al.ringOk;rw [hF.prime,hF.size];rfl
 have hnv:0<=(p.vars.length:Int) * p.n:=Int.mul_nonneg (by omega) (by omega)
 have hnv2:(p.vars.length:Int) * p.n<=12 * 256:=Int.mul_le_mul (by omega) (by omega) (by omega) (by omega)
 have hE:Al.endF p=2+p.vars.length * p.n:=rfl
 obtain⟨en,hen⟩:∃ en:Nat,(en:Int)=Al.endF p:=⟨(Al.endF p).toNat,by omega⟩
 have HEn:=fun w0=>end_any w0 p.q p.n Va p.vars.length vc (.slice Ab p.body.length cb) (by omega) hvl
 rw [show 2+p.n * (p.vars.length:Int)=en by rw [hen,hE,Int.mul_comm]] at HEn
 have hen4:en<=3074:=by omega
 have hen2:2<=en:=by omega
 have henH:=Lib.hid hen
 have wen:IntKind.i64.wrap ((en:Int)+4096)=(en:Int)+4096:=IntWalk.i64_in _ (by omega)
 have hEn:∀ m:Int,(m<Al.endF p+4096\/m > 65536) ↔ (m<(en:Int)+4096\/m > 65536):=fun m=>by rw [hen]
 replace hE:=Lib.hid hE
 clear hen
 have hfin:(Al.checkF p).code=0:=hck
 by_cases hm1:mem<(en:Int)+4096
 ·have z1:decide (mem<(en:Int)+4096)=true:=decide_eq_true hm1
  have hFv:memoryF p mem ins tape= .bare 101:=by unfold memoryF;rw [if_neg (by simp [hck]),if_pos ((hEn _).2 (.inl (by omega)))]
  clear hm1 hnv hnv2
  go_wp2_with (first|(go_at_call 36;refine HC.mono ?_;rintro e w1 ⟨v,rfl,hE1,hb1⟩;obtain rfl:=hE1.nil hck;have hb2:=hb0.trans (lower_below hb1 hb0.size);have P1:PBox w1 kp p Va Ab vc cb:=below_blk hb1 P0 (blk_lt P0);clear p0 p1 p2 p3;obtain⟨p0,p1,p2,p3⟩:=P1.cells)|(go_at_call 55;refine (HEn _).mono ?_;rintro e w2 ⟨rfl,hb3⟩;have hb4:=hb2.trans (lower_below hb3 hb2.size);have g0:=(S.below hb4).cell 0 (by decide);unfold sv at g0))
  go_quiet (fail)
  go_wp2_with fail
  exact bodyPost_ret (v:= .tuple #[.slice none 0 0,.iface 205 (.pointer (some (A 0)))]) (by simp [results,Tryz.results22,go_sem]) rfl (MemX.no hFv (by decide) (bareAt (g:=0) (by decide) rfl) (Go.Proofs.YtkplfaionpplaaaGreatDoorW.PrintWords.pw_below_drewN hb4 _))
 have z1:decide (mem<(en:Int)+4096)=false:=decide_eq_false hm1
 by_cases hm2:65536<mem
 ·have z2:decide (65536<mem)=true:=decide_eq_true hm2
  have hFv:memoryF p mem ins tape= .bare 101:=by unfold memoryF;rw [if_neg (by simp [hck]),if_pos ((hEn _).2 (.inr (by omega)))]
  clear hm1 hm2 hnv hnv2
  go_wp2_with (first|(go_at_call 36;refine HC.mono ?_;rintro e w1 ⟨v,rfl,hE1,hb1⟩;obtain rfl:=hE1.nil hck;have hb2:=hb0.trans (lower_below hb1 hb0.size);have P1:PBox w1 kp p Va Ab vc cb:=below_blk hb1 P0 (blk_lt P0);clear p0 p1 p2 p3;obtain⟨p0,p1,p2,p3⟩:=P1.cells)|(go_at_call 55;refine (HEn _).mono ?_;rintro e w2 ⟨rfl,hb3⟩;have hb4:=hb2.trans (lower_below hb3 hb2.size);have g0:=(S.below hb4).cell 0 (by decide);unfold sv at g0))
  go_quiet (fail)
  go_wp2_with fail
  exact bodyPost_ret (v:= .tuple #[.slice none 0 0,.iface 205 (.pointer (some (A 0)))]) (by simp [results,Tryz.results22,go_sem]) rfl (MemX.no hFv (by decide) (bareAt (g:=0) (by decide) rfl) (Go.Proofs.YtkplfaionpplaaaGreatDoorW.PrintWords.pw_below_drewN hb4 _))
 have z2:decide (65536<mem)=false:=decide_eq_false hm2
 have hFv:memoryF p mem ins tape=Al.inputsF p.q p.n p.vars ins tape 0:=by unfold memoryF;rw [if_neg (by simp [hck]),if_neg (by rw [hEn];omega)]
 by_cases hin:(Al.inputsF p.q p.n p.vars ins tape 0).code=0
 case neg=>
  go_wp2_with (first|(go_at_call 36;refine HC.mono ?_;rintro e w1 ⟨v,rfl,hE1,hb1⟩;obtain rfl:=hE1.nil hck;have hb2:=hb0.trans (lower_below hb1 hb0.size);have P1:PBox w1 kp p Va Ab vc cb:=below_blk hb1 P0 (blk_lt P0);clear p0 p1 p2 p3;obtain⟨p0,p1,p2,p3⟩:=P1.cells)|(go_at_call 55;refine (HEn _).mono ?_;rintro e w2 ⟨rfl,hb3⟩;have hb4:=hb2.trans (lower_below hb3 hb2.size);have P2:PBox w2 kp p Va Ab vc cb:=below_blk hb3 P1 (blk_lt P1);clear p0 p1 p2 p3;obtain⟨p0,p1,p2,p3⟩:=P2.cells)|(go_at_call 56;refine (HGi _ hb4).mono ?_;rintro e w3 ⟨v,rfl,hE3,hb5⟩;obtain⟨t,a,rfl,hta⟩:=hE3.held hin;replace hE3:=Lib.hid hE3;have hb6:=hb4.trans (lower_below hb5 hb4.size)))
  exact bodyPost_ret (v:= .tuple #[.slice none 0 0,.iface t (.pointer (some a))]) (by simp [results,Tryz.results22,go_sem]) rfl (MemX.no hFv hin hE3 hb6)
 have hio:=Al.inOk_of hin
 have htl:=hio.tape
 obtain⟨mm,rfl⟩:∃ mm:Nat,mem=mm:=⟨mem.toNat,by omega⟩
 have hm4:4098<=mm:=by omega
 have hmem2:mm<=65536:=by omega
 obtain⟨K,hK⟩:∃ K,K=Al.kindsOf p.vars 1:=⟨_,rfl⟩
 have hKl:K.length=ins.length:=by rw [hK];exact hio.len.symm
 have hKlH:=Lib.hid hKl
 have hKr:∀ (i:Nat) (h:i<K.length),0<=K[i]/\K[i]<p.vars.length:=fun i h=>Al.kindsOf_range (by rw [<-hK];exact List.getElem_mem h)
 have hK12:K.length<=12:=by rw [hK];have:=kindsFrom_len p.vars 1 0;unfold Al.kindsOf;omega
 obtain⟨FM,hFM⟩:∃ FM,FM=Al.memF p mm ins tape:=⟨_,rfl⟩
 have hFML:=Lib.hid hFM
 unfold Al.memF at hFM
 rw [<-hK] at hFM
 have HK:∀ W0:World,Below w.heap.size w W0->Calls Tryz.prog 57 #[.agg #[.int .i64 p.q,.int .i64 p.n,.slice Va p.vars.length vc,.slice Ab p.body.length cb],.int .i64 1] W0 fun e w'=>∃ v,e= .returned v/\w'.ownsRow W0.heap.size 3 1 v K.length (intsV K)/\Below W0.heap.size W0 w':=by
  intro W0 hb
  have:=src_kinds (w:=W0) (q:=p.q) (n:=p.n) (vc:=vc) (.slice Ab p.body.length cb) rfl (Kd.C_below hp.v hb) (by omega) 1
  rw [<-hK] at this
  exact this
 replace hK:=Lib.hid hK
 have wt:IntKind.u64.wrap (tape.length:Int)=tape.length:=IntWalk.u64_in _ (by omega)
 have HP:=Lib.hid hp
 have HI:=Lib.hid hi
 have HT:=Lib.hid ht
 have hvec:=Lib.hid hio.vec
 clear hKl
 have ht0h:=Lib.hid ht0
 have HFM:=Lib.hid hFM
 clear hp hi ht hF hio ht0 hFM hm1 hm2
 go_wp2_with (first
  |(go_at_call 36;refine HC.mono ?_;rintro e w1 ⟨v,rfl,hE1,hb1⟩;obtain rfl:=hE1.nil hck;have hb2:=hb0.trans (lower_below hb1 hb0.size);have P1:PBox w1 kp p Va Ab vc cb:=below_blk hb1 P0 (blk_lt P0);clear p0 p1 p2 p3;obtain⟨p0,p1,p2,p3⟩:=P1.cells)
  |(go_at_call 55;refine (HEn _).mono ?_;rintro e w2 ⟨rfl,hb3⟩;have hb4:=hb2.trans (lower_below hb3 hb2.size);have P2:PBox w2 kp p Va Ab vc cb:=below_blk hb3 P1 (blk_lt P1);clear p0 p1 p2 p3;obtain⟨p0,p1,p2,p3⟩:=P2.cells)
  |(go_at_call 56;refine (HGi _ hb4).mono ?_;rintro e w3 ⟨v,rfl,hE3,hb5⟩;obtain rfl:=hE3.nil hin;have hFf:=Lib.hid (hE3.fault hin);have hb6:=hb4.trans (lower_below hb5 hb4.size);have P3:PBox w3 kp p Va Ab vc cb:=below_blk hb5 P2 (blk_lt P2);clear p0 p1 p2 p3 hE3;obtain⟨p0,p1,p2,p3⟩:=P3.cells)
  |(at_make;refine wpList_make_full _ rfl _ _ 47 rfl w.heap.size 56 j0 (.int .u64 0) 1 Tryz.underlying47 hj0 jz0 jz1 .i64 .i64 _ _ mm rfl rfl rfl rfl (by rw [jz2];omega) (by unfold maxLen;omega) hb6.size ?_;intro w4 hown1 hgrow1;rw [made_words] at hown1;obtain⟨g,hg⟩:∃ g,g=w3.heap.size:=⟨_,rfl⟩;rw [<-hg] at hown1 ⊢;have M0:MB w w4 kp g mm p Va Ab vc cb (List.replicate mm 0):=⟨below_blk (below_grown0 hgrow1) P3 (blk_lt P3),hown1,hb6.trans (lower_below (below_grown0 hgrow1) hb6.size)⟩;obtain⟨x0,s0,y0⟩:=M0.word (j:=0) (by omega);have M1:=M0.set 0 (tape.length:Int);clear p0 p1 p2 p3;obtain⟨p0,p1,p2,p3⟩:=M1.p.cells;clear hown1 hgrow1 hg hb0 P0)
  |(go_at_call 57;refine (HK _ M1.b).mono ?_;rintro e w5 ⟨vk,rfl,hok,hb7⟩;obtain⟨ka,kc,rfl⟩:=own_slice hok;have M2:=M1.below hb7;clear p0 p1 p2 p3 s0 y0 M0 M1 hb7))
 obtain⟨S1,hS1⟩:∃ S1,S1=Al.setRows p ((List.replicate mm 0).set 0 (tape.length:Int)) K ins:=⟨_,rfl⟩
 have HFM2:=show FM=_ from HFM
 rw [show ((mm:Int).toNat)=mm from rfl,<-hS1] at HFM2
 have HFM3:=Lib.hid HFM2
 obtain⟨bk,hbk⟩:∃ bk,bk=(w4.setCell ⟨g,0,none⟩ (.int .u64 (tape.length:Int))).heap.size:=⟨_,rfl⟩
 rw [<-hbk] at hok
 have HH:Hid (MB w w5 kp g mm p Va Ab vc cb ((List.replicate mm 0).set 0 (tape.length:Int))/\w5.ownsRow bk 3 1 (.slice ka K.length kc) K.length (intsV K)):=Lib.hid ⟨M2,hok⟩
 replace hS1:=Lib.hid hS1
 clear M2 hok hbk HFM HFM2 HK wt
 go_loopg [13,14,15,16,51] (K.length+1) (fun gk v13 v14 v15 v16 v51 w'=>∃ i:Nat,v51= .int .i64 i/\i+gk=K.length+1/\i<=K.length/\∃ mc:List Int,Hid (S1=Al.setRows p mc (K.drop i) (ins.drop i))/\Hid (MB w w' kp g mm p Va Ab vc cb mc/\w'.ownsRow bk 3 1 (.slice ka K.length kc) K.length (intsV K)))
 case atStart=>exact⟨0,rfl,by omega,by omega,_,Lib.hid (show S1=_ from hS1),HH⟩
 case round=>
  obtain⟨i,rfl,hg,hi2,mc,HS,HM⟩:=hrel
  have hS:=show S1=Al.setRows p mc (K.drop i) (ins.drop i) from HS
  obtain⟨M2,hok⟩:=show MB w wr kp g mm p Va Ab vc cb mc/\wr.ownsRow bk 3 1 (.slice ka K.length kc) K.length (intsV K) from HM
  clear HH HS HM
  by_cases hilt:i<K.length
  ·obtain⟨k1,rfl⟩:∃ k1,gk=k1+1:=⟨gk - 1,by omega⟩
   have hii:i<ins.length:=by have:=show K.length=ins.length from hKlH;omega
   obtain⟨ad,A0,c0,rfl,d0,l0,g0⟩:=at_L4 (show Kd.C (Kd.slice 3 (Kd.int .i64)) w Ia ins.length ins from HI) (i:Int) (by omega) (by omega)
   simp only [Int.toNat_natCast] at d0
   have hx0:rd_L4 ins (i:Int)=ins[i]:=by unfold rd_L4;simp [List.getD_eq_getElem?_getD,hii]
   rw [hx0] at d0 l0 g0
   rw [List.drop_eq_getElem_cons hilt,List.drop_eq_getElem_cons hii] at hS
   unfold Al.setRows at hS
   have hv:=(show ∀ (a:List Int),a∈ins-> ↑a.length=p.n/\∀ (x:Int),x∈a->0<=x/\x<p.q from hvec) ins[i] (List.getElem_mem hii)
   obtain⟨a,ha⟩:∃ a,a=ins[i]:=⟨_,rfl⟩
   rw [<-ha] at d0 l0 g0 hS hv
   clear ha hx0
   replace d0:=cell_since M2.b d0
   obtain⟨gi,rfl,dk⟩:=ints_get (own_ints hok) hilt
   have hkr:=hKr i hilt
   obtain⟨kv,hkv⟩:∃ kv,kv=K[i]:=⟨_,rfl⟩
   rw [<-hkv] at dk hkr hS
   have hpn:kv * p.n+p.n<=p.vars.length * p.n:=by
    have h:(kv+1) * p.n<=(p.vars.length:Int) * p.n:=Int.mul_le_mul_of_nonneg_right (by omega) (by omega)
    rw [Int.add_mul,Int.one_mul] at h
    exact h
   have hkn0:0<=kv * p.n:=Int.mul_nonneg (by omega) (by omega)
   obtain⟨pl,hpl⟩:∃ pl:Nat,(pl:Int)=Al.placeF p kv:=⟨(Al.placeF p kv).toNat,by have:Al.placeF p kv=2+kv * p.n:=rfl;omega⟩
   have hplv:Al.placeF p kv=2+kv * p.n:=rfl
   have hplb:(pl:Int)+p.n+4096<=mm:=by have h1:=show Al.endF p=_ from hE;have h2:=show (en:Int)=Al.endF p from henH;have h3:=of_decide_eq_false z1;omega
   have hlen:(a.length:Int)=p.n:=hv.1
   have hlenH:=Lib.hid hlen
   have hax:=Lib.hid hv.2
   obtain⟨row1,hrow1⟩:∃ row1,row1=Al.setRow mc pl a:=⟨_,rfl⟩
   have hS2:S1=Al.setRows p row1 (K.drop (i+1)) (ins.drop (i+1)):=by rw [hS,hrow1,<-hpl];rfl
   have HPl:=fun w0=>place_yes w0 p.q p.n kv Va p.vars.length vc (.slice Ab p.body.length cb) hring hkr.1 hkr.2 hvl
   rw [show 2+p.n * kv=pl by rw [hpl,hplv,Int.mul_comm]] at HPl
   replace hS2:=Lib.hid hS2
   replace hrow1:=Lib.hid hrow1
   replace hkv:=Lib.hid hkv
   clear hpn hkn0 hplv hS hv hpl
   have r0:(0:Int)<=(i:Int):=by omega
   have r1:(i:Int)<(K.length:Int):=by omega
   have r1':(i:Int)<(ins.length:Int):=by omega
   have r2:decide ((i:Int)<(K.length:Int))=true:=decide_eq_true r1
   have gI:=Lib.hid g0
   have HH:Hid (MB w wr kp g mm p Va Ab vc cb mc/\wr.ownsRow bk 3 1 (.slice (some ⟨gi,0,none⟩) K.length kc) K.length (intsV K)):=Lib.hid ⟨M2,hok⟩
   clear g0 M2 hok hlen
   go_wp2_with fail
   clear d0 dk
   go_loopg [15,16,61] (a.length+1) (fun gk2 v15 v16 v61 w'=>∃ k:Nat,v61= .int .i64 k/\k+gk2=a.length+1/\k<=a.length/\∃ mk:List Int,Hid (row1=Al.setRow mk (pl+k) (a.drop k))/\Hid (MB w w' kp g mm p Va Ab vc cb mk/\w'.ownsRow bk 3 1 (.slice (some ⟨gi,0,none⟩) K.length kc) K.length (intsV K)))
   case atStart=>exact⟨0,rfl,by omega,by omega,mc,Lib.hid (show row1=_ from hrow1),HH⟩
   case round=>
    obtain⟨k,rfl,hg2,hk2,mk,HR,HM⟩:=hrel
    have hrw:=show row1=Al.setRow mk (pl+k) (a.drop k) from HR
    obtain⟨M2,hok⟩:=show MB w wr kp g mm p Va Ab vc cb mk/\wr.ownsRow bk 3 1 (.slice (some ⟨gi,0,none⟩) K.length kc) K.length (intsV K) from HM
    clear HH HR HM
    have hlen:=show (a.length:Int)=p.n from hlenH
    obtain⟨p0,p1,p2,p3⟩:=M2.p.cells
    by_cases hkl:k<a.length
    ·obtain⟨k3,rfl⟩:∃ k3,gk=k3+1:=⟨gk - 1,by omega⟩
     rw [setRow_step hkl] at hrw
     obtain⟨ad0,hA0,c0'⟩:=intsC_get (show (Kd.int .i64).C w A0 a.length a from gI) hkl hkl
     have hx:=(show ∀ (x:Int),x∈a->0<=x/\x<p.q from hax) a[k] (List.getElem_mem hkl)
     obtain⟨x,hxe⟩:∃ x,x=a[k]:=⟨_,rfl⟩
     rw [<-hxe] at c0' hrw hx
     subst hA0
     clear hxe
     replace c0':=cell_since M2.b c0'
     obtain⟨xo,s0,y0⟩:=M2.word (j:=pl+k) (by omega)
     have wx:IntKind.u64.wrap x=x:=IntWalk.u64_in _ (by omega)
     have wpk:IntKind.i64.wrap ((pl:Int)+(k:Int))=(pl:Int)+(k:Int):=IntWalk.i64_in _ (by omega)
     have q0:(0:Int)<=(k:Int):=by omega
     have q1:(k:Int)<(a.length:Int):=by omega
     have q2:decide ((k:Int)<(a.length:Int))=true:=decide_eq_true q1
     have q3:(0:Int)<=(pl:Int)+(k:Int):=by omega
     have q4:(pl:Int)+(k:Int)<(mm:Int):=by omega
     have q5:((pl:Int)+(k:Int)).toNat=pl+k:=by omega
     clear hlen
     go_wp2_with (first
      |(go_at_call 28;refine (HPl _).mono ?_;rintro e w6 ⟨rfl,hb2⟩;have M3:=M2.below hb2;have hok3:=own_of hok fun k hk=>hb2.block k (hok.lt k hk).2;have e7:=cell_since hb2 s0;have e8:=frozen_since hb2 s0 y0))
     obtain⟨W4,hW4⟩:∃ W4,W4=w6.setCell ⟨g,pl+k,none⟩ (.int .u64 x):=⟨_,rfl⟩
     have HN:Hid (row1=Al.setRow (mk.set (pl+k) x) (pl+(k+1)) (a.drop (k+1))):=Lib.hid hrw
     have HN2:Hid (MB w W4 kp g mm p Va Ab vc cb (mk.set (pl+k) x)/\W4.ownsRow bk 3 1 (.slice (some ⟨gi,0,none⟩) K.length kc) K.length (intsV K)):=by rw [hW4];exact Lib.hid ⟨M3.set _ _,M3.keep hok3 (by decide) _ _⟩
     rw [<-hW4]
     clear hW4 hrw M3 M2 hok hok3 e7 e8 p0 p1 p2 p3 c0' s0 y0 hb2
     go_roundg k3
     case measure=>omega
     case rel=>exact⟨k+1,by simp,by omega,by omega,_,HN,HN2⟩
    ·have hke:k=a.length:=by omega
     have q2:decide ((k:Int)<(a.length:Int))=false:=decide_eq_false (by omega)
     rw [hke,List.drop_length] at hrw
     have hmk:mk=row1:=hrw.symm
     have HN:Hid (MB w wr kp g mm p Va Ab vc cb mk/\wr.ownsRow bk 3 1 (.slice (some ⟨gi,0,none⟩) K.length kc) K.length (intsV K)):=Lib.hid ⟨M2,hok⟩
     have HS3:Hid (S1=Al.setRows p mk (K.drop (i+1)) (ins.drop (i+1))):=by rw [hmk];exact hS2
     clear hmk hrw M2 hok hke hlen
     go_wp2_with fail
     go_roundg k1
     case measure=>omega
     case rel=>exact⟨i+1,by simp,by omega,by omega,mk,HS3,HN⟩
  ·obtain rfl:i=K.length:=by omega
   have t1:decide ((K.length:Int)<(K.length:Int))=false:=by simp
   rw [List.drop_length] at hS
   have hS2:S1=mc:=by rw [hS];unfold Al.setRows;rfl
   have hFM:=show FM=Al.setRow S1 (Al.endF p).toNat tape from HFM3
   rw [hS2] at hFM
   have hen2:(Al.endF p).toNat=en:=by have h2:=show (en:Int)=Al.endF p from henH;omega
   rw [hen2] at hFM
   have hEb:(en:Int)+4096<=mm:=by have h3:=of_decide_eq_false z1;omega
   have HFI:=Lib.hid hFM
   have HH:Hid (MB w wr kp g mm p Va Ab vc cb mc/\wr.ownsRow bk 3 1 (.slice ka K.length kc) K.length (intsV K)):=Lib.hid ⟨M2,hok⟩
   clear hFM hen2 hS2 hS M2 hok
   go_wp2_with fail
   go_loopg [17,18,79] (tape.length+1) (fun gk v17 v18 v79 w'=>∃ k:Nat,v79= .int .i64 k/\k+gk=tape.length+1/\k<=tape.length/\∃ mk:List Int,Hid (FM=Al.setRow mk (en+k) (tape.drop k))/\Hid (MB w w' kp g mm p Va Ab vc cb mk))
   case atStart=>exact⟨0,rfl,by omega,by omega,mc,Lib.hid (show FM=_ from HFI),Lib.hid (show MB w wr kp g mm p Va Ab vc cb mc/\_ from HH).1⟩
   case round=>
    obtain⟨k,rfl,hg2,hk2,mk,HR,HM⟩:=hrel
    have hrw:=show FM=Al.setRow mk (en+k) (tape.drop k) from HR
    have M2:=show MB w wr kp g mm p Va Ab vc cb mk from HM
    clear HH HR HM
    obtain⟨p0,p1,p2,p3⟩:=M2.p.cells
    by_cases hkl:k<tape.length
    ·obtain⟨k3,rfl⟩:∃ k3,gk=k3+1:=⟨gk - 1,by omega⟩
     rw [setRow_step hkl] at hrw
     obtain⟨ad0,rfl,c0'⟩:=intsC_get (show (Kd.int .u32).C w Ta tape.length tape from HT) hkl hkl
     have hx:=(show ∀ (x:Int),x∈tape->0<=x/\x<4294967296 from ht0h) tape[k] (List.getElem_mem hkl)
     obtain⟨x,hxe⟩:∃ x,x=tape[k]:=⟨_,rfl⟩
     rw [<-hxe] at c0' hrw hx
     clear hxe
     replace c0':=cell_since M2.b c0'
     obtain⟨xo,s0,y0⟩:=M2.word (j:=en+k) (by omega)
     have wx:IntKind.u64.wrap x=x:=IntWalk.u64_in _ (by omega)
     have wpk:IntKind.i64.wrap ((en:Int)+(k:Int))=(en:Int)+(k:Int):=IntWalk.i64_in _ (by omega)
     have q0:(0:Int)<=(k:Int):=by omega
     have q1:(k:Int)<(tape.length:Int):=by omega
     have q2:decide ((k:Int)<(tape.length:Int))=true:=decide_eq_true q1
     have q3:(0:Int)<=(en:Int)+(k:Int):=by omega
     have q4:(en:Int)+(k:Int)<(mm:Int):=by omega
     have q5:((en:Int)+(k:Int)).toNat=en+k:=by omega
     go_wp2_with (first
      |(go_at_call 55;refine (HEn _).mono ?_;rintro e w6 ⟨rfl,hb2⟩;have M3:=M2.below hb2;have e7:=cell_since hb2 s0;have e8:=frozen_since hb2 s0 y0))
     obtain⟨W4,hW4⟩:∃ W4,W4=w6.setCell ⟨g,en+k,none⟩ (.int .u64 x):=⟨_,rfl⟩
     have HN:Hid (FM=Al.setRow (mk.set (en+k) x) (en+(k+1)) (tape.drop (k+1))):=Lib.hid hrw
     have HN2:Hid (MB w W4 kp g mm p Va Ab vc cb (mk.set (en+k) x)):=by rw [hW4];exact Lib.hid (M3.set _ _)
     rw [<-hW4]
     clear hW4 hrw M3 M2 e7 e8 p0 p1 p2 p3 c0' s0 y0 hb2
     go_roundg k3
     case measure=>omega
     case rel=>exact⟨k+1,by simp,by omega,by omega,_,HN,HN2⟩
    ·obtain rfl:k=tape.length:=by omega
     have q2:decide ((tape.length:Int)<(tape.length:Int))=false:=decide_eq_false (by omega)
     rw [List.drop_length] at hrw
     have hmk:mk=FM:=hrw.symm
     have hm:=M2.m
     have hb:=M2.b
     rw [hmk,show FM=_ from hFML] at hm
     have hFv2:=Lib.hid hFv
     clear hmk hrw M2 hFv
     go_wp2_with fail
     exact bodyPost_ret (v:= .tuple #[.slice (some ⟨g,0,none⟩) mm mm,Value.nilIface]) (by simp [results,Tryz.results22,go_sem]) rfl ⟨_,_,rfl,.inl ⟨(show memoryF p mm ins tape=_ from hFv2).trans (show _=_ from hFf),rfl⟩,fun h=>absurd (by rw [show memoryF p mm ins tape=_ from hFv2];exact hin) h,fun _=>hm,hb⟩
end Go.Proofs.YtkplfaionpplaaaGreatDoor
namespace Go.Proofs.YtkplfaionpplaaaGreatDoor
open Go.RowKit Go.Proofs.YtkplfaionpplaaaGreatDoorW.PrintLast
def vecN (n:Nat)(f:Nat->Int):List Int:=(List.range n).map f
def vecV (n:Nat)(f:Nat->Int):List Value:=intsV (vecN n f)
structure XC where
 kx:Nat
 q:Int
 n:Nat
 nv:Nat
 Va:Option Addr
 vc:Nat
 sb:Value
 tape:List Int
 Ta:Option Addr
 tc:Nat
 fuel:Nat
def XC.cells (C:XC)(x:Al.RS)(vv ve:Value):Array Value:= #[.int .i64 C.q,.int .i64 C.n,.slice C.Va C.nv C.vc,C.sb,vv,.slice C.Ta C.tape.length C.tc,.int .i64 C.fuel,.int .i64 x.code,.slice none 0 0,ve,.int .i64 x.steps,.int .i64 x.used,.bool x.over]
def EvR (w:World)(B:Nat):List Al.Ev->List Value->Prop
 |[],cs=>cs=[]
 |e :: l,cs=>∃ v rest,cs= .int .i64 e.kind :: .bool e.yes :: v :: rest/\w.ownsRow B 3 1 v e.vec.length (intsV e.vec)/\EvR w B l rest
theorem EvR.imp {w w':World}{B:Nat}(h:∀ v n xs,w.ownsRow B 3 1 v n xs->w'.ownsRow B 3 1 v n xs):∀ {l:List Al.Ev} {cs:List Value},EvR w B l cs->EvR w' B l cs
 |[],_,hh=>hh
 |_ :: _,_,⟨v,r,h1,h2,h3⟩=>⟨v,r,h1,h _ _ _ h2,EvR.imp h h3⟩
theorem EvR.snoc {w:World}{B:Nat}{e:Al.Ev}{v:Value}(hv:w.ownsRow B 3 1 v e.vec.length (intsV e.vec)):∀ {l:List Al.Ev} {cs:List Value},EvR w B l cs->EvR w B (l++[e]) (cs++[.int .i64 e.kind,.bool e.yes,v])
 |[],_,h=>by subst h;exact⟨v,[],rfl,hv,rfl⟩
 |_ :: _,_,⟨v1,r,h1,h2,h3⟩=>by subst h1;exact⟨v1,_,rfl,h2,EvR.snoc hv h3⟩
structure XW (w0 w:World)(C:XC)(x:Al.RS)(vv ve:Value)(cs es:List Value):Prop where
 blk:w.heap[C.kx]?=some (.cells (C.cells x vv ve) 85 (0,0))
 vo:w.ownsRow w0.heap.size 86 1 vv C.nv cs
 vr:∀ i,i<C.nv->∃ v,cs[i]?=some v/\w.ownsRow w0.heap.size 3 1 v C.n (vecV C.n (x.V i))
 eo:w.ownsRow w0.heap.size 114 3 ve x.evs.length es
 er:EvR w w0.heap.size x.evs es
 b:Below w0.heap.size w0 w
 hx:w0.heap.size<=C.kx
 tp:x.tape=C.tape
def Bnd (N:Nat)(cs es:List Value):Prop:=∀ v∈cs++es,∀ k,v.ownBlock=some k->k<N
def XS (w0 w:World)(C:XC)(x:Al.RS)(N:Nat):Prop:=∃ vv ve cs es,XW w0 w C x vv ve cs es/\Bnd N cs es
def Keeps (w w':World)(t:TypeId):Prop:=∀ (k:Nat) (c:Array Value),w.heap[k]?=some (.cells c t (0,0))->w'.heap[k]?=some (.cells c t (0,0))
theorem own_keeps {w w':World}{base:Nat}{e:TypeId}{size:Nat}{v:Value}{n:Nat}{xs:List Value}(h:w.ownsRow base e size v n xs)(hk:Keeps w w' e):w'.ownsRow base e size v n xs:=own_of h fun k hb=>by
 obtain⟨c,hc⟩:=own_type h hb
 rw [hk _ _ hc,hc]
theorem Keeps.grown {w w':World}{row:Option Nat}{t:TypeId}(hg:w.grownBy w' row)(hr:∀ k,row=some k->∃ (c:Array Value) (u:TypeId),w.heap[k]?=some (.cells c u (0,0))/\u≠t):Keeps w w' t:=fun k c h=>grow_blk hg h fun e=>by
 obtain⟨c',u,h',hu⟩:=hr k e
 rw [h] at h'
 cases h'
 exact hu rfl
theorem Keeps.set {w:World}{k:Nat}{c:Array Value}{u t:TypeId}(h:w.heap[k]?=some (.cells c u (0,0)))(hu:u≠t)(j:Nat)(v:Value):Keeps w (w.setCell ⟨k,j,none⟩ v) t:=fun i d hi=>by
 rw [set_blk_ne _ _ (fun e=>by subst e;rw [h] at hi;cases hi;exact hu rfl)];exact hi
theorem Keeps.trans {a b c:World}{t:TypeId}(h:Keeps a b t)(h2:Keeps b c t):Keeps a c t:=fun k x hx=>h2 k x (h k x hx)
def KK (w w':World):Prop:=∀ t,85≠t->86≠t->114≠t->Keeps w w' t
theorem KK.trans {a b c:World}(h:KK a b)(h2:KK b c):KK a c:=fun t h1 h3 h4=>(h t h1 h3 h4).trans (h2 t h1 h3 h4)
theorem KK.below {w w':World}(h:Below w.heap.size w w'):KK w w':=fun t _ _ _ k c hc=>below_blk h hc (blk_lt hc)
theorem KK.refl (w:World):KK w w:=fun _ _ _ _ _ _ h=>h
section
variable {w0 w w':World} {C:XC} {x:Al.RS} {vv ve:Value} {cs es:List Value}
theorem XW.kk (h:XW w0 w C x vv ve cs es)(j:Nat)(u:Value):KK w (w.setCell ⟨C.kx,j,none⟩ u):=fun t h1 _ _=>Keeps.set h.blk h1 j u
theorem XW.of (h:XW w0 w C x vv ve cs es)(hs:∀ (k:Nat) (o:Obj),w.heap[k]?=some o->w'.heap[k]?=some o)(hb:Below w0.heap.size w0 w'):XW w0 w' C x vv ve cs es:=
 have f:∀ t,Keeps w w' t:=fun t k c hc=>hs _ _ hc
 ⟨hs _ _ h.blk,own_keeps h.vo (f _),fun i hi=>by obtain⟨v,h1,h2⟩:=h.vr i hi;exact⟨v,h1,own_keeps h2 (f _)⟩,own_keeps h.eo (f _),h.er.imp (fun _ _ _ ho=>own_keeps ho (f _)),hb,h.hx,h.tp⟩
theorem XW.alloc (h:XW w0 w C x vv ve cs es)(o:Obj):XW w0 (w.alloc o) C x vv ve cs es:=h.of (fun k x hx=>alloc_blk o hx) (h.b.alloc h.b.size _)
theorem XW.below (h:XW w0 w C x vv ve cs es)(hb:Below w.heap.size w w'):XW w0 w' C x vv ve cs es:=h.of (fun k x hx=>below_blk hb hx (blk_lt hx)) (h.b.trans (lower_below hb h.b.size))
theorem XW.drew (h:XW w0 w C x vv ve cs es):XW w0 w.drew C x vv ve cs es:=h.of (fun k x hx=>hx) (below_drew' h.b)
theorem XW.drewN (h:XW w0 w C x vv ve cs es)(m:Nat):XW w0 (w.drewN m) C x vv ve cs es:=h.of (fun k x hx=>hx) ⟨h.b.os,h.b.tape,h.b.output,h.b.size,h.b.block⟩
theorem XS.below {N:Nat}(h:XS w0 w C x N)(hb:Below w.heap.size w w'):XS w0 w' C x N:=by obtain⟨vv,ve,cs,es,h,hn⟩:=h;exact⟨vv,ve,cs,es,h.below hb,hn⟩
theorem XS.alloc {N:Nat}(h:XS w0 w C x N)(o:Obj):XS w0 (w.alloc o) C x N:=by obtain⟨vv,ve,cs,es,h,hn⟩:=h;exact⟨vv,ve,cs,es,h.alloc o,hn⟩
theorem XS.drewN {N:Nat}(h:XS w0 w C x N)(m:Nat):XS w0 (w.drewN m) C x N:=by obtain⟨vv,ve,cs,es,h,hn⟩:=h;exact⟨vv,ve,cs,es,h.drewN m,hn⟩
theorem XS.b {N:Nat}(h:XS w0 w C x N):Below w0.heap.size w0 w:=by obtain⟨vv,ve,cs,es,h,hn⟩:=h;exact h.b
theorem EvR.bnd {w:World}{B:Nat}:∀ {l:List Al.Ev} {cs:List Value},EvR w B l cs->∀ v∈cs,∀ k,v.ownBlock=some k->k<w.heap.size
 |[],_,h,v,hv,k,hk=>by subst h;cases hv
 |_ :: _,_,⟨u,r,h1,h2,h3⟩,v,hv,k,hk=>by
  subst h1
  simp only [List.mem_cons] at hv
  rcases hv with rfl|rfl|rfl|hv
  ·cases hk
  ·cases hk
  ·exact (h2.lt _ hk).2
  ·exact EvR.bnd h3 v hv k hk
theorem XW.bnd (h:XW w0 w C x vv ve cs es):Bnd w.heap.size cs es:=fun v hv k hk=>by
 rcases List.mem_append.1 hv with hv|hv
 ·obtain⟨i,hi,rfl⟩:=List.getElem_of_mem hv
  have hl:=h.vo.1
  obtain⟨u,h1,h2⟩:=h.vr i (by omega)
  rw [List.getElem?_eq_getElem hi] at h1
  cases h1
  exact (h2.lt _ hk).2
 ·exact h.er.bnd v hv k hk
theorem XS.far {N:Nat}(h:XS w0 w C x N){g:Nat}{c:Array Value}(hg:w.heap[g]?=some (.cells c 3 (0,0)))(hN:N<=g)(h0:w0.heap.size<=g)(j:Nat)(u:Value):XS w0 (w.setCell ⟨g,j,none⟩ u) C x N:=by
 obtain⟨vv,ve,cs,es,h,hn⟩:=h
 have f:∀ t,3≠t->Keeps w (w.setCell ⟨g,j,none⟩ u) t:=fun t ht=>Keeps.set hg ht j u
 have f2:∀ v n xs,(∀ k,v.ownBlock=some k->k<N)->w.ownsRow w0.heap.size 3 1 v n xs->(w.setCell ⟨g,j,none⟩ u).ownsRow w0.heap.size 3 1 v n xs:=fun v n xs hv ho=>own_of ho fun k hk=>set_blk_ne _ _ (by have:=hv k hk;omega)
 have f3:∀ (l:List Al.Ev) (cs:List Value),(∀ v∈cs,∀ k,v.ownBlock=some k->k<N)->EvR w w0.heap.size l cs->EvR (w.setCell ⟨g,j,none⟩ u) w0.heap.size l cs:=by
  intro l
  induction l with
  |nil=>intro cs _ h;exact h
  |cons e l ih=>
   rintro cs hc ⟨v,r,rfl,h2,h3⟩
   exact⟨v,r,rfl,f2 _ _ _ (hc v (by simp)) h2,ih r (fun v hv=>hc v (by simp [hv])) h3⟩
 refine⟨vv,ve,cs,es,⟨f _ (by decide) _ _ h.blk,own_keeps h.vo (f _ (by decide)),fun i hi=>?_,own_keeps h.eo (f _ (by decide)),f3 _ _ (fun v hv=>hn v (List.mem_append_right _ hv)) h.er,below_set h.b h0,h.hx,h.tp⟩,hn⟩
 obtain⟨v,h1,h2⟩:=h.vr i hi
 exact⟨v,h1,f2 _ _ _ (hn v (List.mem_append_left _ (List.mem_of_getElem? h1))) h2⟩
theorem XW.field (h:XW w0 w C x vv ve cs es)(j:Nat)(u:Value){y:Al.RS}{v2:Value}(hc:(C.cells x vv ve).setIfInBounds j u=C.cells y v2 ve)(hV:y.V=x.V)(hev:y.evs=x.evs)(ht:y.tape=x.tape)(hv:v2=vv):XW w0 (w.setCell ⟨C.kx,j,none⟩ u) C y vv ve cs es:=by
 subst hv
 have f:∀ t,85≠t->Keeps w (w.setCell ⟨C.kx,j,none⟩ u) t:=fun t ht=>Keeps.set h.blk ht j u
 refine⟨by rw [<-hc];exact set_blk h.blk j u,own_keeps h.vo (f _ (by decide)),fun i hi=>?_,by rw [hev];exact own_keeps h.eo (f _ (by decide)),by rw [hev];exact h.er.imp (fun _ _ _ ho=>own_keeps ho (f _ (by decide))),below_set h.b h.hx,h.hx,ht.trans h.tp⟩
 obtain⟨v,h1,h2⟩:=h.vr i hi
 rw [hV]
 exact⟨v,h1,own_keeps h2 (f _ (by decide))⟩
theorem XW.step (h:XW w0 w C x vv ve cs es):XW w0 (w.setCell ⟨C.kx,10,none⟩ (.int .i64 ((x.steps+1:Nat):Int))) C { x with steps:=x.steps+1} vv ve cs es:=h.field 10 _ (v2:=vv) rfl rfl rfl rfl rfl
theorem XW.used (h:XW w0 w C x vv ve cs es):XW w0 (w.setCell ⟨C.kx,11,none⟩ (.int .i64 ((x.used+1:Nat):Int))) C { x with used:=x.used+1} vv ve cs es:=h.field 11 _ (v2:=vv) rfl rfl rfl rfl rfl
theorem XW.fin (h:XW w0 w C x vv ve cs es)(c:Int):XW w0 ((w.setCell ⟨C.kx,7,none⟩ (.int .i64 c)).setCell ⟨C.kx,12,none⟩ (.bool true)) C (x.fin c) vv ve cs es:=
 (h.field 7 (.int .i64 c) (y:={ x with code:=c}) (v2:=vv) rfl rfl rfl rfl rfl).field 12 _ (v2:=vv) rfl rfl rfl rfl rfl
theorem XW.c (h:XW w0 w C x vv ve cs es)(j:Nat):w.cell? ⟨C.kx,j,none⟩=(C.cells x vv ve)[j]?:=cell_blk h.blk _
theorem XW.fz (h:XW w0 w C x vv ve cs es)(j:Nat):w.frozen? ⟨C.kx,j,none⟩=false:=frozen_blk h.blk _
theorem XW.vec (h:XW w0 w C x vv ve cs es){d:Nat}(hd:d<C.nv){v:Value}{f:Nat->Int}(hv:w.ownsRow w0.heap.size 3 1 v C.n (vecV C.n f)):∃ g vcap,vv= .slice (some ⟨g,0,none⟩) C.nv vcap/\(∃ u,w.cell? ⟨g,d,none⟩=some u)/\w.frozen? ⟨g,d,none⟩=false/\g≠C.kx/\w0.heap.size<=g/\
  XW w0 (w.setCell ⟨g,d,none⟩ v) C { x with V:=Al.setV x.V d f} vv ve (cs.set d v) es:=by
 obtain⟨g,vcap,hvv,hgb,hgl⟩:=h.vo.form (by omega)
 have hl:=h.vo.1
 subst hvv
 obtain⟨c,hc⟩:=own_type h.vo rfl
 have hne:C.kx≠g:=fun e=>by subst e;rw [h.blk] at hc;cases hc
 have f1:∀ t,86≠t->Keeps w (w.setCell ⟨g,d,none⟩ v) t:=fun t ht=>Keeps.set hc ht d v
 refine⟨g,vcap,rfl,⟨_,(h.vo.cellAt d (by omega)).trans (List.getElem?_eq_getElem (by omega))⟩,h.vo.frozenAt _,Ne.symm hne,hgb,?_⟩
 refine⟨by rw [set_blk_ne _ _ hne];exact h.blk,(h.vo.stored d v).1,fun i hi=>?_,own_keeps h.eo (f1 _ (by decide)),h.er.imp (fun _ _ _ ho=>own_keeps ho (f1 _ (by decide))),below_set h.b hgb,h.hx,h.tp⟩
 by_cases e:i=d
 ·subst e
  refine⟨v,by rw [List.getElem?_set_self (by omega)],?_⟩
  have:Al.setV x.V i f i=f:=by funext k;simp [Al.setV]
  show World.ownsRow _ _ _ _ _ _ (vecV C.n (Al.setV x.V i f i))
  rw [this]
  exact own_keeps hv (f1 _ (by decide))
 ·obtain⟨u,h1,h2⟩:=h.vr i hi
  refine⟨u,by rw [List.getElem?_set_ne (Ne.symm e)];exact h1,?_⟩
  have:Al.setV x.V d f i=x.V i:=by funext k;simp [Al.setV,e]
  show World.ownsRow _ _ _ _ _ _ (vecV C.n (Al.setV x.V d f i))
  rw [this]
  exact own_keeps h2 (f1 _ (by decide))
end
def Vec (w:World)(A:Option Addr)(n:Nat)(f:Nat->Int):Prop:=∃ ad,A=some ad/\∀ j,j<n->w.cell? (ad.add j)=some (.int .i64 (f j))
theorem Vec.below {w w':World}{A:Option Addr}{n:Nat}{f:Nat->Int}(h:Vec w A n f)(hb:Below w.heap.size w w'):Vec w' A n f:=by
 obtain⟨ad,e,h⟩:=h
 exact⟨ad,e,fun j hj=>cell_since hb (h j hj)⟩
theorem vecN_len (n:Nat)(f:Nat->Int):(vecN n f).length=n:=by simp [vecN]
theorem vecV_succ (n:Nat)(f:Nat->Int):vecV (n+1) f=vecV n f++[.int .i64 (f n)]:=by simp [vecV,vecN,intsV,List.range_succ]
theorem made_ints (n:Nat):(madeCells (Value.int .i64 0).cells (n * 1)).toList=vecV n (fun _=>0):=by
 have e:(Value.int .i64 0).cells= #[.int .i64 0]:=rfl
 rw [e,Nat.mul_one]
 apply List.ext_getElem
 ·simp [madeCells,vecV,vecN,intsV]
 ·intro j h1 h2
  simp [madeCells,vecV,vecN,intsV,Nat.mod_one]
def upTo (F:Nat->Int)(k:Nat):Nat->Int:=fun j=>if j<k then F j else 0
theorem vecV_set (n k:Nat)(F:Nat->Int)(hk:k<n):(vecV n (upTo F k)).set k (.int .i64 (F k))=vecV n (upTo F (k+1)):=by
 apply List.ext_getElem
 ·simp [vecV,vecN,intsV]
 ·intro j h1 h2
  simp [vecV,vecN,intsV,upTo,List.getElem_set]
  by_cases e:k=j
  ·subst e;simp
  ·rw [if_neg e]
   by_cases h:j<k
   ·rw [if_pos h,if_pos (by omega)]
   ·rw [if_neg h,if_neg (by omega)]
theorem vecV_congr {n:Nat}{f g:Nat->Int}(h:∀ j,j<n->f j=g j):vecV n f=vecV n g:=by
 unfold vecV vecN
 congr 1
 exact List.map_congr_left fun j hj=>h j (List.mem_range.1 hj)
open Go.Proofs.YtkplfaionpplaaaGreatDoorW.PrintWords
theorem upTo_all (n:Nat)(f:Nat->Int):vecV n (upTo f n)=vecV n f:=vecV_congr fun j hj=>by unfold upTo;rw [if_pos hj]
structure VW (w0 w:World)(kp g n:Nat)(p:Al.Prog)(Va Ab:Option Addr)(vc cb:Nat)(f:Nat->Int):Prop where
 p:PBox w kp p Va Ab vc cb
 o:w.ownsRow w0.heap.size 3 1 (.slice (some ⟨g,0,none⟩) n n) n (vecV n f)
 b:Below w0.heap.size w0 w
theorem vector_any {w:World}{p:Al.Prog}{Va Ab ma:Option Addr}{vc cb mc M b2:Nat}{mem:List Int}{f:Nat->Int}(kv:Nat)(hkv:kv<p.vars.length)(hvl:p.vars.length<=12)(hring:Al.ringOk p.q p.n=true)(hMM:M<=65536)(hm:w.ownsRow b2 56 1 (.slice ma M mc) M (wordsV mem))
  (hV:∀ k,k<p.n.toNat->(2+p.n.toNat * kv+k<M)/\mem.getD (2+p.n.toNat * kv+k) 0=f k/\0<=f k/\f k<p.q) (hcap:2+p.n.toNat * kv+p.n.toNat<=mc):
  Calls Tryz.prog 62 #[.agg #[.int .i64 p.q,.int .i64 p.n,.slice Va p.vars.length vc,.slice Ab p.body.length cb],.int .i64 kv,.slice ma M mc] w fun e w'=>∃ v,e= .returned (.tuple #[v,Value.nilIface])/\w'.ownsRow w.heap.size 3 1 v p.n.toNat (vecV p.n.toNat f)/\Below w.heap.size w w':=by
 obtain⟨j0,hj0,jz0,jz1,jz2⟩:=info_parts Tryz.infoInt
 have hq:=q_range hring
 have hn:4<=p.n/\p.n<=256:=by
    have h2:Al.isSize p.n=true:=by (unfold Al.ringOk at hring;simp at hring;exact hring.2)
    exact Al.size_facts h2
 obtain⟨n,hpn⟩:=Int.eq_ofNat_of_zero_le (show 0<=p.n by omega)
 obtain⟨q,hpq⟩:=Int.eq_ofNat_of_zero_le hq.1
 rw [show p.n.toNat=n by omega] at hV hcap ⊢
 have hn2:n<=256:=by omega
 have hn3:4<=n:=by omega
 have hq2:q<8388608:=by omega
 obtain⟨W,hW⟩:∃ W,W=w.alloc (.cells #[.int .i64 p.q,.int .i64 p.n,.slice Va p.vars.length vc,.slice Ab p.body.length cb] 27):=⟨_,rfl⟩
 have hb0:Below w.heap.size w W:=by rw [hW];exact (Below.refl _ _).alloc (Nat.le_refl _) _
 obtain⟨kp,hkp⟩:∃ kp,kp=w.heap.size:=⟨_,rfl⟩
 have P0:PBox W kp p Va Ab vc cb:=by rw [hW,hkp];exact heap_alloc_new w _
 obtain⟨p0,p1,p2,p3⟩:=P0.cells
 have HPl:=fun w0=>place_yes w0 p.q p.n kv Va p.vars.length vc (.slice Ab p.body.length cb) hring (by omega) (by omega) hvl
 obtain⟨at_,hat⟩:∃ at_,at_=2+n * kv:=⟨_,rfl⟩
 rw [show 2+p.n * (kv:Int)=at_ by rw [hat,hpn];simp] at HPl
 rw [<-hat] at hV hcap
 have hat2:at_+n<=M:=by have:=(hV (n - 1) (by omega)).1;omega
 have HV:=Lib.hid hV
 have HM:=Lib.hid hm
 have hml:mem.length=M:=by have:=own_one hm;simpa [wordsV] using this
 replace hat:=Lib.hid hat
 obtain⟨gm,hma,_,_⟩:=words_get hm (j:=0) (by omega) hml.symm
 subst hma
 have hwq:IntKind.u64.wrap (q:Int)=q:=IntWalk.u64_in _ (by omega)
 have hwa:IntKind.i64.wrap ((at_:Int)+(n:Int))=(at_:Int)+n:=IntWalk.i64_in _ (by omega)
 have s0:(0:Int)<=(at_:Int):=by omega
 have s1:(at_:Int)<=(at_:Int)+n:=by omega
 have s2:(at_:Int)+n<=mc:=by omega
 clear hV hm
 rw [hpq,hpn] at hW HPl ⊢
 rw [hpq] at p0
 rw [hpn] at p1
 go_enter Tryz.func62,Tryz.ntmps62
 go_upto_region 1 with (fail)
 rw [<-hW]
 simp only [<-hkp]
 replace hkp:=Lib.hid hkp
 clear hW
 go_wp2_with (first
  |(go_at_call 28;refine (HPl _).mono ?_;rintro e w1 ⟨rfl,hb1⟩;have P1:PBox w1 kp p Va Ab vc cb:=below_blk hb1 P0 (blk_lt P0);have hb2:=hb0.trans (lower_below hb1 hb0.size);clear p0 p1 p2 p3;obtain⟨p0,p1,p2,p3⟩:=P1.cells;rw [hpq] at p0;rw [hpn] at p1)
  |(at_make;refine wpList_make_full _ rfl _ _ 86 rfl w.heap.size 3 j0 (.int .i64 0) 1 Tryz.underlying86 hj0 jz0 jz1 .i64 .i64 _ _ n rfl rfl rfl rfl (by rw [jz2];omega) (by unfold maxLen;omega) hb2.size ?_;intro w4 hown1 hgrow1;rw [made_ints] at hown1;obtain⟨g,hg⟩:∃ g,g=w1.heap.size:=⟨_,rfl⟩;rw [<-hg] at hown1 ⊢;have V0:VW w w4 kp g n p Va Ab vc cb (upTo f 0):=⟨below_blk (below_grown0 hgrow1) P1 (blk_lt P1),by rw [vecV_congr (g:=fun _=>0) (fun j hj=>by unfold upTo;simp)];exact hown1,hb2.trans (lower_below (below_grown0 hgrow1) hb2.size)⟩;clear p0 p1 p2 p3;obtain⟨p0,p1,p2,p3⟩:=V0.p.cells;rw [hpq] at p0;rw [hpn] at p1;clear hown1 hgrow1 hg hb0 P0))
 rw [show at_+n - at_=n by omega]
 have HH:Hid (VW w w4 kp g n p Va Ab vc cb (upTo f 0)):=Lib.hid V0
 clear V0 p0 p1 p2 p3 HPl
 go_loopg [10,11,28] (n+1) (fun gk v10 v11 v28 w'=>∃ k:Nat,v28= .int .i64 k/\k+gk=n+1/\k<=n/\Hid (VW w w' kp g n p Va Ab vc cb (upTo f k)))
 case atStart=>exact⟨0,rfl,by omega,by omega,HH⟩
 case round=>
  obtain⟨k,rfl,hg,hk2,HR⟩:=hrel
  have V0:=show VW w wr kp g n p Va Ab vc cb (upTo f k) from HR
  clear HH HR
  by_cases hkl:k<n
  ·obtain⟨k1,rfl⟩:∃ k1,gk=k1+1:=⟨gk - 1,by omega⟩
   obtain⟨v1,v2,v3,v4⟩:=(show ∀ k,k<n->_/\_/\_/\_ from HV) k hkl
   obtain⟨x,hx⟩:∃ x,x=f k:=⟨_,rfl⟩
   rw [<-hx] at v2 v3 v4
   obtain⟨gm',hma,dm, -⟩:=words_get (show w.ownsRow b2 56 1 (.slice (some ⟨gm,0,none⟩) M mc) M (wordsV mem) from HM) (j:=at_+k) (by omega) hml.symm
   cases hma
   have hmx:mem[at_+k]'(by omega)=x:=by rw [<-v2,List.getD_eq_getElem?_getD,List.getElem?_eq_getElem (by omega)];rfl
   rw [hmx] at dm
   replace dm:=cell_since V0.b dm
   have e0:∃ u,wr.cell? ⟨g,k,none⟩=some u:=⟨_,(V0.o.cellAt k (by omega)).trans (List.getElem?_eq_getElem (by simp [vecV,vecN,intsV];omega))⟩
   obtain⟨u0,e0⟩:=e0
   have e1:=V0.o.frozenAt (j:=k)
   obtain⟨p0,p1,p2,p3⟩:=V0.p.cells
   rw [hpq] at p0
   rw [hpn] at p1
   have o1:=(V0.o.stored k (.int .i64 x)).1
   rw [hx,vecV_set n k f hkl,<-hx] at o1
   have hgb:w.heap.size<=g:=(V0.o.lt g rfl).1
   have hne:kp≠g:=fun e=>own_ne_blk V0.o V0.p (by decide) (by rw [e];rfl)
   have HN:Hid (VW w (wr.setCell ⟨g,k,none⟩ (.int .i64 x)) kp g n p Va Ab vc cb (upTo f (k+1))):=Lib.hid ⟨by rw [PBox,set_blk_ne _ _ hne];exact V0.p,o1,below_set V0.b hgb⟩
   replace hx:=Lib.hid hx
   have r0:(0:Int)<=(k:Int):=by omega
   have r1:(k:Int)<(n:Int):=by omega
   have r2:decide ((k:Int)<(n:Int))=true:=decide_eq_true r1
   have r3:decide ((q:Int)<=x)=false:=decide_eq_false (by omega)
   have r4:IntKind.i64.wrap x=x:=IntWalk.i64_in _ (by omega)
   clear V0 o1 v2
   go_wp2_with fail
   go_roundg k1
   case measure=>omega
   case rel=>exact⟨k+1,by simp,by omega,by omega,HN⟩
  ·obtain rfl:k=n:=by omega
   have r2:decide ((k:Int)<(k:Int))=false:=decide_eq_false (by omega)
   have ho:=V0.o
   have hb:=V0.b
   rw [upTo_all] at ho
   clear V0
   go_wp2_with fail
   exact bodyPost_ret (v:= .tuple #[.slice (some ⟨g,0,none⟩) k k,Value.nilIface]) (by simp [results,Tryz.results62,go_sem]) rfl ⟨_,rfl,ho,hb⟩
end Go.Proofs.YtkplfaionpplaaaGreatDoor
namespace Go.Proofs.YtkplfaionpplaaaGreatDoor
open Go.RowKit Go.Proofs.YtkplfaionpplaaaGreatDoorW.PrintLast
structure Rows (w:World)(ad:Addr)(nv n:Nat)(q:Int)(V:Nat->Nat->Int):Prop where
 c:∀ i,i<nv->∃ A ca,w.cell? (ad.add i)=some (.slice (some A) n ca)/\∀ j,j<n->w.cell? (A.add j)=some (.int .i64 (V i j))
 r:∀ i,i<nv->∀ j,j<n->0<=V i j/\V i j<q
structure StB (w0 w:World)(kq ks:Nat)(q:Int)(n:Nat)(sv:Array Value):Prop where
 q:w.heap[kq]?=some (.cells #[.int .i64 q,.int .i64 n] 23 (0,0))
 s:w.heap[ks]?=some (.cells sv 66 (0,0))
 b:Below w0.heap.size w0 w
theorem StB.below {w0 w w':World}{kq ks:Nat}{q:Int}{n:Nat}{sv:Array Value}(h:StB w0 w kq ks q n sv)(hb:Below w.heap.size w w'):StB w0 w' kq ks q n sv:=⟨below_blk hb h.q (blk_lt h.q),below_blk hb h.s (blk_lt h.s),h.b.trans (lower_below hb h.b.size)⟩
theorem Rows.vec {w w':World}{ad:Addr}{nv n:Nat}{q:Int}{V:Nat->Nat->Int}(h:Rows w ad nv n q V){i:Nat}(hi:i<nv)(hb:Below w.heap.size w w'):∃ A ca,w'.cell? (ad.add i)=some (.slice (some A) n ca)/\Vec w' (some A) n (V i):=by
 obtain⟨A,ca,h1,h2⟩:=h.c i hi
 exact⟨A,ca,cell_since hb h1,A,rfl,fun j hj=>cell_since hb (h2 j hj)⟩
end Go.Proofs.YtkplfaionpplaaaGreatDoor
namespace Go.Proofs.YtkplfaionpplaaaGreatDoor.Al
theorem codes_ok {p:Prog}(hF:Fine p){len:Nat}(hlen:len=bodyP p.body+(genL (envOf p (bitsOf p.q)) 0 0 0 (bodyP p.body) p.body).length):
  (∀ i∈insts (progC (envOf p (bitsOf p.q)) p.body (outT len) (outG len p.body)),okI (progC (envOf p (bitsOf p.q)) p.body (outT len) (outG len p.body)).length i)/\
   (progC (envOf p (bitsOf p.q)) p.body (outT len) (outG len p.body)).length<=len+3:=by
 have hE:=env_ok hF
 have hg:=good_prog hF (bitsOf p.q)
 generalize hEE:envOf p (bitsOf p.q)=E at *
 have hlen2:len=bodyP p.body+(genL E (outT len) (outG len p.body) 0 (bodyP p.body) p.body).length:=by rw [hlen];congr 1;exact len_list E _ _ _ _ _ _ _
 have hln0:∀ T G,(progC E p.body T G).length=(bodyP p.body+(genL E T G 0 (bodyP p.body) p.body).length)+1+(if drawsL p.body then 1 else 0)+(if untilsL p.body then 1 else 0):=by
  intro T G
  unfold progC endC
  rw [List.length_append,List.length_append]
  have e1:(if p.body.isEmpty=true then [] else beginC E).length=bodyP p.body:=by unfold bodyP;split<;> simp [beginC]
  rw [e1]
  cases drawsL p.body<;> cases untilsL p.body<;> simp<;> omega
 have hln:=hln0 (outT len) (outG len p.body)
 rw [<-hlen2] at hln
 have hok:okC (progC E p.body (outT len) (outG len p.body)).length (progC E p.body (outT len) (outG len p.body)):=by
  refine ok_prog hE hg ?_ ?_
  ·rw [hln];unfold outT;omega
  ·rw [hln];unfold outG;omega
 refine⟨fun i hi=>?_,?_⟩
 ·unfold insts at hi
  obtain⟨x,hx,rfl⟩:=List.mem_map.1 hi
  exact hok x hx
 ·rw [hln]
  cases drawsL p.body<;> cases untilsL p.body<;> simp
def exF (p:Prog)(ins:List (List Int))(tape:List Int)(fuel:Nat):RS:=exL (envOf p (bitsOf p.q)) fuel p.body ⟨tape,Vof (V0 p ins),0,0,[],false,0⟩
end Go.Proofs.YtkplfaionpplaaaGreatDoor.Al
namespace Go.Proofs.YtkplfaionpplaaaGreatDoor
open Go.RowKit Go.Proofs.YtkplfaionpplaaaGreatDoorW.PrintLast
structure Lim (C:XC)(x:Al.RS):Prop where
 s:x.steps<=C.fuel
 e:x.evs.length<=x.steps
 u:x.used<=C.tape.length
 r:∀ i,i<C.nv->∀ j,j<C.n->0<=x.V i j/\x.V i j<C.q
structure XL (w0 w:World)(C:XC)(x:Al.RS)(N:Nat):Prop where
 h:XS w0 w C x N
 l:Lim C x
theorem XL.below {w0 w w':World}{C:XC}{x:Al.RS}{N:Nat}(h:XL w0 w C x N)(hb:Below w.heap.size w w'):XL w0 w' C x N:=⟨h.h.below hb,h.l⟩
theorem XL.alloc {w0 w:World}{C:XC}{x:Al.RS}{N:Nat}(h:XL w0 w C x N)(o:Obj):XL w0 (w.alloc o) C x N:=⟨h.h.alloc o,h.l⟩
theorem XL.drewN {w0 w:World}{C:XC}{x:Al.RS}{N:Nat}(h:XL w0 w C x N)(m:Nat):XL w0 (w.drewN m) C x N:=⟨h.h.drewN m,h.l⟩
theorem Lim.fin {C:XC}{x:Al.RS}(h:Lim C x)(c:Int):Lim C (x.fin c):=⟨h.s,h.e,h.u,h.r⟩
theorem XL.cells {w0 w:World}{C:XC}{x:Al.RS}{N:Nat}(h:XL w0 w C x N):w.cell? ⟨C.kx,0,none⟩=some (.int .i64 C.q)/\w.cell? ⟨C.kx,1,none⟩=some (.int .i64 C.n)/\w.cell? ⟨C.kx,5,none⟩=some (.slice C.Ta C.tape.length C.tc)/\w.cell? ⟨C.kx,11,none⟩=some (.int .i64 x.used)/\w.cell? ⟨C.kx,12,none⟩=some (.bool x.over)/\w.frozen? ⟨C.kx,11,none⟩=false:=by
 obtain⟨⟨vv,ve,cs,es,h, -⟩, -⟩:=h
 exact⟨h.c 0,h.c 1,h.c 5,h.c 11,h.c 12,h.fz 11⟩
end Go.Proofs.YtkplfaionpplaaaGreatDoor
namespace Go.Proofs.YtkplfaionpplaaaGreatDoor
open Go.RowKit Go.Proofs.YtkplfaionpplaaaGreatDoorW.PrintWords
theorem vecV_upd {n i:Nat}{f:Nat->Int}{x:Int}:(vecV n f).set i (.int .i64 x)=vecV n (Al.upd f i x):=by
 apply List.ext_getElem
 ·simp [vecV,vecN,intsV]
 ·intro j h1 h2
  simp [vecV,vecN,intsV,Al.upd,List.getElem_set]
  by_cases e:i=j
  ·subst e;simp
  ·rw [if_neg e,if_neg (Ne.symm e)]
theorem XL.used {w0 w:World}{C:XC}{x:Al.RS}{N:Nat}(h:XL w0 w C x N)(hu:x.used<C.tape.length):XL w0 (w.setCell ⟨C.kx,11,none⟩ (.int .i64 ((x.used:Int)+1))) C { x with used:=x.used+1} N/\KK w (w.setCell ⟨C.kx,11,none⟩ (.int .i64 ((x.used:Int)+1))):=by
 obtain⟨⟨vv,ve,cs,es,h,hn⟩,hl⟩:=h
 exact⟨⟨⟨_,_,_,_,h.used,hn⟩,hl.s,hl.e,hu,hl.r⟩,h.kk 11 _⟩
theorem XL.vec {w0 w:World}{C:XC}{x:Al.RS}{N:Nat}(h:XL w0 w C x N){d:Nat}(hd:d<C.nv){v:Value}{f:Nat->Int}(hv:w.ownsRow w0.heap.size 3 1 v C.n (vecV C.n f))(hr:∀ j,j<C.n->0<=f j/\f j<C.q):∃ g vcap,w.cell? ⟨C.kx,4,none⟩=some (.slice (some ⟨g,0,none⟩) C.nv vcap)/\(∃ u,w.cell? ⟨g,d,none⟩=some u)/\w.frozen? ⟨g,d,none⟩=false/\g≠C.kx/\
  XL w0 (w.setCell ⟨g,d,none⟩ v) C { x with V:=Al.setV x.V d f} w.heap.size/\KK w (w.setCell ⟨g,d,none⟩ v):=by
 obtain⟨⟨vv,ve,cs,es,h, -⟩,hl⟩:=h
 obtain⟨g,vcap,hvv,hu,hf,hne,hgb,hX⟩:=h.vec hd hv
 have c4:=h.c 4
 rw [hvv] at c4
 have hb:=hX.bnd
 rw [set_size] at hb
 refine⟨g,vcap,c4,hu,hf,hne,⟨⟨_,_,_,_,hX,hb⟩,hl.s,hl.e,hl.u,fun i hi j hj=>?_⟩,fun t h1 h2 h3=>?_⟩
 ·simp only [Al.setV]
  split
  ·exact hr j hj
  ·exact hl.r i hi j hj
 ·have ho:=h.vo
  rw [hvv] at ho
  obtain⟨c,hc⟩:=own_type ho rfl
  exact Keeps.set hc h2 d v
structure DW (w0 w wr:World)(C:XC)(g0:Nat)(f:Nat->Int)(z:Al.RS):Prop where
 x:XL w0 wr C z g0
 g:w0.heap.size<=g0
 o:wr.ownsRow w.heap.size 3 1 (.slice (some ⟨g0,0,none⟩) C.n C.n) C.n (vecV C.n f)
 k:KK w wr
 r:∀ j,j<C.n->0<=f j/\f j<C.q
theorem KK.own {w w':World}(h:KK w w'){B:Nat}{v:Value}{n:Nat}{xs:List Value}(ho:w.ownsRow B 3 1 v n xs):w'.ownsRow B 3 1 v n xs:=own_keeps ho (h _ (by decide) (by decide) (by decide))
theorem KK.far {w w6:World}(h:KK w w6){g j:Nat}(hg:w.heap.size<=g)(u:Value):KK w (w6.setCell ⟨g,j,none⟩ u):=fun t h1 h2 h3 k c hc=>by
 rw [set_blk_ne _ _ (by have:=blk_lt hc;omega)]
 exact h t h1 h2 h3 k c hc
theorem DW.put {w0 w w6:World}{C:XC}{g0:Nat}{f:Nat->Int}{z:Al.RS}(hr:∀ j,j<C.n->0<=f j/\f j<C.q)(hX:XL w0 w6 C z g0)(ho:w6.ownsRow w.heap.size 3 1 (.slice (some ⟨g0,0,none⟩) C.n C.n) C.n (vecV C.n f))(hk:KK w w6)(hg:g0=w.heap.size)(h0:w0.heap.size<=g0)(i:Nat){m:Int}(hm:0<=m/\m<C.q):
  DW w0 w (w6.setCell ⟨g0,i,none⟩ (.int .i64 m)) C g0 (Al.upd f i m) z:=by
 obtain⟨c,hc⟩:=own_type ho rfl
 refine⟨⟨hX.h.far hc (Nat.le_refl _) h0 i _,hX.l⟩,h0,?_,hk.far (by omega) _,fun j hj=>?_⟩
 ·rw [<-vecV_upd];exact (ho.stored i (.int .i64 m)).1
 ·unfold Al.upd;split
  ·exact hm
  ·exact hr j hj
end Go.Proofs.YtkplfaionpplaaaGreatDoor
namespace Go.Proofs.YtkplfaionpplaaaGreatDoor.Al
def Sl (x y:RS)(c:Nat):Prop:=y.evs.length+x.steps<=y.steps+x.evs.length+c
section
variable {E:Env} {fuel:Nat}
theorem Sl.trans {x y z:RS}{c:Nat}(h:Sl x y 0)(h2:Sl y z c):Sl x z c:=by unfold Sl at *;omega
end
end Go.Proofs.YtkplfaionpplaaaGreatDoor.Al
namespace Go.Proofs.YtkplfaionpplaaaGreatDoor
open Go.RowKit Go.Proofs.YtkplfaionpplaaaGreatDoorW.PrintWords
structure UW (w0 w wr:World)(C:XC)(z:Al.RS)(ks:Nat)(sv:Array Value):Prop where
 x:∃ N,XL w0 wr C z N
 k:KK w wr
 s:wr.heap[ks]?=some (.cells sv 66 (0,0))
theorem UW.of {w0 w wr w2:World}{C:XC}{z z2:Al.RS}{ks:Nat}{sv:Array Value}(h:UW w0 w wr C z ks sv)(hx:∃ N,XL w0 w2 C z2 N)(hk:KK wr w2):UW w0 w w2 C z2 ks sv:=⟨hx,h.k.trans hk,hk _ (by decide) (by decide) (by decide) _ _ h.s⟩
structure AW (w0 w wr:World)(C:XC)(z:Al.RS):Prop where
 x:∃ N,XL w0 wr C z N
 k:KK w wr
theorem AW.of {w0 w wr w2:World}{C:XC}{z z2:Al.RS}(h:AW w0 w wr C z)(hx:∃ N,XL w0 w2 C z2 N)(hk:KK wr w2):AW w0 w w2 C z2:=⟨hx,h.k.trans hk⟩
theorem XL.drew {w0 w:World}{C:XC}{x:Al.RS}{N:Nat}(h:XL w0 w C x N):XL w0 w.drew C x N:=by
 obtain⟨⟨vv,ve,cs,es,h1,hn⟩,h2⟩:=h
 exact⟨⟨vv,ve,cs,es,h1.drew,hn⟩,h2⟩
theorem XL.tape {w0 w:World}{C:XC}{x:Al.RS}{N:Nat}(h:XL w0 w C x N):x.tape=C.tape:=by
 obtain⟨⟨vv,ve,cs,es,h, -⟩, -⟩:=h
 exact h.tp
def sBlk (w:World)(ks:Nat)(op d a b c k:Int)(x6 x7:Value):Prop:=w.heap[ks]?=some (.cells #[.int .i64 op,.int .i64 d,.int .i64 a,.int .i64 b,.int .i64 c,.int .i64 k,x6,x7] 66 (0,0))
theorem sBlk.cells {w:World}{ks:Nat}{op d a b c k:Int}{x6 x7:Value}(h:sBlk w ks op d a b c k x6 x7):w.cell? ⟨ks,0,none⟩=some (.int .i64 op)/\w.cell? ⟨ks,1,none⟩=some (.int .i64 d)/\w.cell? ⟨ks,2,none⟩=some (.int .i64 a)/\w.cell? ⟨ks,3,none⟩=some (.int .i64 b)/\w.cell? ⟨ks,4,none⟩=some (.int .i64 c)/\w.cell? ⟨ks,5,none⟩=some (.int .i64 k)/\w.cell? ⟨ks,6,none⟩=some x6/\w.cell? ⟨ks,7,none⟩=some x7:=
 ⟨(cell_blk h _).trans rfl,(cell_blk h _).trans rfl,(cell_blk h _).trans rfl,(cell_blk h _).trans rfl,(cell_blk h _).trans rfl,(cell_blk h _).trans rfl,(cell_blk h _).trans rfl,(cell_blk h _).trans rfl⟩
theorem sBlk.kk {w w':World}{ks:Nat}{op d a b c k:Int}{x6 x7:Value}(h:sBlk w ks op d a b c k x6 x7)(hk:KK w w'):sBlk w' ks op d a b c k x6 x7:=hk _ (by decide) (by decide) (by decide) _ _ h
end Go.Proofs.YtkplfaionpplaaaGreatDoor
