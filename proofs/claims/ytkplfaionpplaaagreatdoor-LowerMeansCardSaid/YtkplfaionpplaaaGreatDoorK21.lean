/- Part 21: B61, B56, B57, B62. -/
import Derived.Test.YtkplfaionpplaaaGreatDoorK20
import Derived.Shelf.Bits.Mul64
import Derived.Laws.Bits64b
set_option maxRecDepth 100000
set_option maxHeartbeats 6400000
set_option linter.unusedVariables false
set_option linter.unusedSimpArgs false
namespace Go.Proofs.YtkplfaionpplaaaGreatDoor
open Go.RowKit Go.Proofs.YtkplfaionpplaaaGreatDoorW.PrintWords
theorem cell_lt {w:World}{a:Addr}{v:Value}(h:w.cell? a=some v):a.block<w.heap.size:=by
 unfold World.cell? at h
 cases hb:w.heap[a.block]? with
 |none=>rw [hb] at h;simp at h
 |some o=>exact (Array.getElem?_eq_some_iff.1 hb).1
theorem intsC_cell {w:World}{A:Option Addr}{n:Nat}{l:List Int}{kk:IntKind}(h:(Kd.int kk).C w A n l){j:Nat}(hj:j<l.length){ad:Addr}(he:A=some ad)(hn:j<n:=by omega):w.cell? (ad.add j)=some (.int kk l[j]):=by
 obtain⟨ad',e,h1⟩:=intsC_get h hn hj
 rw [he] at e
 cases e
 exact h1
theorem frozen_since {w w':World}{a:Addr}{v:Value}(hb:Below w.heap.size w w')(h:w.cell? a=some v)(hf:w.frozen? a=false):w'.frozen? a=false:=by
 unfold World.frozen? at hf ⊢
 rw [hb.block _ (cell_lt h)]
 exact hf
theorem setRow_step {m a:List Int}{at_ k:Nat}(h:k<a.length):Al.setRow m (at_+k) (a.drop k)=Al.setRow (m.set (at_+k) a[k]) (at_+(k+1)) (a.drop (k+1)):=by
 rw [List.drop_eq_getElem_cons h];rfl
theorem word_set {w:World}{base g cap n:Nat}{M:List Int}(h:w.ownsRow base 56 1 (.slice (some ⟨g,0,none⟩) n cap) n (wordsV M))(j:Nat)(x:Int):
  (w.setCell ⟨g,j,none⟩ (.int .u64 x)).ownsRow base 56 1 (.slice (some ⟨g,0,none⟩) n cap) n (wordsV (M.set j x))/\base<=g:=by
 obtain⟨s1,_⟩:=h.stored j (.int .u64 x)
 rw [wordsV_set] at s1
 exact⟨s1,(h.lt g rfl).1⟩
structure MB (w0 w:World)(kp g n:Nat)(p:Al.Prog)(Va Ab:Option Addr)(vc cb:Nat)(M:List Int):Prop where
 p:PBox w kp p Va Ab vc cb
 m:w.ownsRow w0.heap.size 56 1 (.slice (some ⟨g,0,none⟩) n n) n (wordsV M)
 b:Below w0.heap.size w0 w
section
variable {w0 w w':World} {kp g n:Nat} {p:Al.Prog} {Va Ab:Option Addr} {vc cb:Nat} {M:List Int}
theorem MB.ne (h:MB w0 w kp g n p Va Ab vc cb M):kp≠g:=fun e=>by subst e;exact own_ne_blk h.m h.p (by decide) rfl
theorem MB.below (h:MB w0 w kp g n p Va Ab vc cb M)(hb:Below w.heap.size w w'):MB w0 w' kp g n p Va Ab vc cb M:=
 ⟨below_blk hb h.p (blk_lt h.p),own_of h.m fun k hk=>hb.block k (h.m.lt k hk).2,h.b.trans (lower_below hb h.b.size)⟩
theorem MB.drew (h:MB w0 w kp g n p Va Ab vc cb M):MB w0 w.drew kp g n p Va Ab vc cb M:=⟨h.p,h.m,below_drew' h.b⟩
theorem MB.drewN (h:MB w0 w kp g n p Va Ab vc cb M)(k:Nat):MB w0 (w.drewN k) kp g n p Va Ab vc cb M:=⟨h.p,h.m,⟨h.b.os,h.b.tape,h.b.output,h.b.size,h.b.block⟩⟩
theorem MB.set (h:MB w0 w kp g n p Va Ab vc cb M)(j:Nat)(x:Int):MB w0 (w.setCell ⟨g,j,none⟩ (.int .u64 x)) kp g n p Va Ab vc cb (M.set j x):=
 ⟨by rw [PBox,set_blk_ne _ _ h.ne];exact h.p,(word_set h.m j x).1,below_set h.b (word_set h.m j x).2⟩
theorem MB.len (h:MB w0 w kp g n p Va Ab vc cb M):M.length=n:=by have:=own_one h.m;simpa [wordsV] using this
theorem MB.keep (h:MB w0 w kp g n p Va Ab vc cb M){base:Nat}{e:TypeId}{size n':Nat}{v:Value}{xs:List Value}(hk:w.ownsRow base e size v n' xs)(he:56≠e)(j:Nat)(u:Value):(w.setCell ⟨g,j,none⟩ u).ownsRow base e size v n' xs:=by
 obtain⟨c,hc⟩:=own_type h.m rfl
 exact own_of hk fun k hv=>set_blk_ne _ _ fun e2=>own_ne_blk hk hc he (by rw [hv,e2])
theorem MB.word (h:MB w0 w kp g n p Va Ab vc cb M){j:Nat}(hj:j<n):∃ x,w.cell? ⟨g,j,none⟩=some (.int .u64 x)/\w.frozen? ⟨g,j,none⟩=false:=by
 have hl:=h.len
 obtain⟨g',e,h1,h2⟩:=words_get (M:=M) h.m (j:=j) (by omega) hl.symm
 cases e
 exact⟨_,h1,h2⟩
end
theorem ref_memory {w:World}{p:Al.Prog}{Va Ab Ia Ta:Option Addr}{vc cb ic tc:Nat}{ins:List (List Int)}{tape:List Int}{mem:Nat}(hp:PLies w p Va Ab vc cb)(hF:Al.Fine p)(hio:Al.InOk p ins tape)
  (hi:Kd.C (Kd.slice 3 (Kd.int .i64)) w Ia ins.length ins) (ht:(Kd.int .u32).C w Ta tape.length tape) (ht0:∀ x∈tape,0<=x/\x<4294967296) (hmem:Al.endF p+4096<=(mem:Int)) (hmem2:mem<=65536):
  Calls Tryz.prog 11 #[progV p Va Ab vc cb,.int .i64 mem,.slice Ia ins.length ic,.slice Ta tape.length tc] w fun e w'=>∃ v,e= .returned v/\w'.ownsRow w.heap.size 56 1 v mem (wordsV (Al.memF p mem ins tape))/\Below w.heap.size w w':=by
 obtain⟨j0,hj0,jz0,jz1,jz2⟩:=info_parts Tryz.infoU64
 obtain⟨W,hW⟩:∃ W,W=w.alloc (.cells #[.int .i64 p.q,.int .i64 p.n,.slice Va p.vars.length vc,.slice Ab p.body.length cb] 27):=⟨_,rfl⟩
 have hb0:Below w.heap.size w W:=by rw [hW];exact (Below.refl _ _).alloc (Nat.le_refl _) _
 obtain⟨kp,hkp⟩:∃ kp,kp=w.heap.size:=⟨_,rfl⟩
 have P0:PBox W kp p Va Ab vc cb:=by rw [hW,hkp];exact heap_alloc_new w _
 have hq:=hF.q
 have hn:=hF.n
 have hvl:=hF.vars
 have hnv:0<=(p.vars.length:Int) * p.n:=Int.mul_nonneg (by omega) (by omega)
 have hE:Al.endF p=2+p.vars.length * p.n:=rfl
 have htl:=hio.tape
 have hm4:4098<=mem:=by omega
 obtain⟨K,hK⟩:∃ K,K=Al.kindsOf p.vars 1:=⟨_,rfl⟩
 have hKl:K.length=ins.length:=by rw [hK];exact hio.len.symm
 have hKlH:=Lib.hid hKl
 have hKr:∀ (i:Nat) (h:i<K.length),0<=K[i]/\K[i]<p.vars.length:=fun i h=>Al.kindsOf_range (by rw [<-hK];exact List.getElem_mem h)
 have hK12:K.length<=12:=by rw [hK];have:=kindsFrom_len p.vars 1 0;unfold Al.kindsOf;omega
 obtain⟨FM,hFM⟩:∃ FM,FM=Al.memF p mem ins tape:=⟨_,rfl⟩
 rw [<-hFM]
 unfold Al.memF at hFM
 rw [<-hK] at hFM
 have HK:∀ W0:World,Below w.heap.size w W0->Calls Tryz.prog 33 #[.agg #[.int .i64 p.q,.int .i64 p.n,.slice Va p.vars.length vc,.slice Ab p.body.length cb],.int .i64 1] W0 fun e w'=>∃ v,e= .returned v/\w'.ownsRow W0.heap.size 3 1 v K.length (intsV K)/\Below W0.heap.size W0 w':=by
  intro W0 hb
  have:=ref_kinds (w:=W0) (q:=p.q) (n:=p.n) (vc:=vc) Ab p.body.length cb (Kd.C_below hp.v hb) (by omega) 1
  rw [<-hK] at this
  exact this
 replace hK:=Lib.hid hK
 have wt:IntKind.u64.wrap (tape.length:Int)=tape.length:=IntWalk.u64_in _ (by omega)
 have HP:=Lib.hid hp
 have HI:=Lib.hid hi
 have HT:=Lib.hid ht
 have hvec:=Lib.hid hio.vec
 clear hKl
 have ht0h:=Lib.hid ht0
 have HFM:=Lib.hid hFM
 have hEh:=Lib.hid hE
 clear hp hi ht hF hio ht0 hFM hE
 go_enter Tryz.func11,Tryz.ntmps11
 unfold progV
 go_wp2_with (first
  |(at_make;refine wpList_make_full _ rfl _ _ 47 rfl w.heap.size 56 j0 (.int .u64 0) 1 Tryz.underlying47 hj0 jz0 jz1 .i64 .i64 _ _ mem rfl rfl rfl rfl (by rw [jz2];omega) (by unfold maxLen;omega) (by rw [<-hW];exact hb0.size) ?_;intro w1 hown1 hgrow1;rw [made_words] at hown1;rw [<-hW] at hown1 hgrow1 ⊢;obtain⟨g,hg⟩:∃ g,g=W.heap.size:=⟨_,rfl⟩;rw [<-hg] at hown1 ⊢;simp only [<-hkp];have M0:MB w w1 kp g mem p Va Ab vc cb (List.replicate mem 0):=⟨below_blk (below_grown0 hgrow1) P0 (blk_lt P0),hown1,hb0.trans (lower_below (below_grown0 hgrow1) hb0.size)⟩;obtain⟨x0,s0,y0⟩:=M0.word (j:=0) (by omega);have M1:=M0.set 0 (tape.length:Int);obtain⟨p0,p1,p2,p3⟩:=M1.p.cells;clear hown1 hgrow1 hg hW hkp hb0 P0)
  |(go_at_call 33;refine (HK _ M1.b).mono ?_;rintro e w2 ⟨vk,rfl,hok,hb2⟩;obtain⟨ka,kc,rfl⟩:=own_slice hok;have M2:=M1.below hb2;clear p0 p1 p2 p3 s0 y0 M0 M1 hb2))
 obtain⟨S1,hS1⟩:∃ S1,S1=Al.setRows p ((List.replicate mem 0).set 0 (tape.length:Int)) K ins:=⟨_,rfl⟩
 have HFM2:=show FM=_ from HFM
 rw [show ((mem:Int).toNat)=mem from rfl,<-hS1] at HFM2
 have HFM3:=Lib.hid HFM2
 obtain⟨bk,hbk⟩:∃ bk,bk=(w1.setCell ⟨g,0,none⟩ (.int .u64 (tape.length:Int))).heap.size:=⟨_,rfl⟩
 rw [<-hbk] at hok
 have HH:Hid (MB w w2 kp g mem p Va Ab vc cb ((List.replicate mem 0).set 0 (tape.length:Int))/\w2.ownsRow bk 3 1 (.slice ka K.length kc) K.length (intsV K)):=Lib.hid ⟨M2,hok⟩
 replace hS1:=Lib.hid hS1
 clear M2 hok hbk HFM HFM2 HK wt
 go_loopg [11,12] (K.length+1) (fun gk v11 v12 w'=>∃ i:Nat,v11= .int .i64 i/\i+gk=K.length+1/\i<=K.length/\∃ mc:List Int,Hid (S1=Al.setRows p mc (K.drop i) (ins.drop i))/\Hid (MB w w' kp g mem p Va Ab vc cb mc/\w'.ownsRow bk 3 1 (.slice ka K.length kc) K.length (intsV K)))
 case atStart=>exact⟨0,rfl,by omega,by omega,_,Lib.hid (show S1=_ from hS1),HH⟩
 case round=>
  obtain⟨i,rfl,hg,hi2,mc,HS,HM⟩:=hrel
  have hS:=show S1=Al.setRows p mc (K.drop i) (ins.drop i) from HS
  obtain⟨M2,hok⟩:=show MB w wr kp g mem p Va Ab vc cb mc/\wr.ownsRow bk 3 1 (.slice ka K.length kc) K.length (intsV K) from HM
  clear HH HS HM
  by_cases hil:i<K.length
  ·obtain⟨k1,rfl⟩:∃ k1,gk=k1+1:=⟨gk - 1,by omega⟩
   have hii:i<ins.length:=by have:=show K.length=ins.length from hKlH;omega
   obtain⟨ad,A0,c0,rfl,d0,l0,g0⟩:=at_L4 (show Kd.C (Kd.slice 3 (Kd.int .i64)) w Ia ins.length ins from HI) (i:Int) (by omega) (by omega)
   simp only [Int.toNat_natCast] at d0
   have hx0:rd_L4 ins (i:Int)=ins[i]:=by unfold rd_L4;simp [List.getD_eq_getElem?_getD,hii]
   rw [hx0] at d0 l0 g0
   rw [List.drop_eq_getElem_cons hil,List.drop_eq_getElem_cons hii] at hS
   unfold Al.setRows at hS
   have hv:=(show ∀ (a:List Int),a∈ins-> ↑a.length=p.n/\∀ (x:Int),x∈a->0<=x/\x<p.q from hvec) ins[i] (List.getElem_mem hii)
   obtain⟨a,ha⟩:∃ a,a=ins[i]:=⟨_,rfl⟩
   rw [<-ha] at d0 l0 g0 hS hv
   clear ha hx0
   obtain⟨gi,hka,dk⟩:=ints_get (own_ints hok) hil
   have hkr:=hKr i hil
   obtain⟨kv,hkv⟩:∃ kv,kv=K[i]:=⟨_,rfl⟩
   rw [<-hkv] at dk hkr hS
   have hkvH:=Lib.hid hkv
   clear hkv
   have hpn:kv * p.n+p.n<=p.vars.length * p.n:=by
    have h:(kv+1) * p.n<=(p.vars.length:Int) * p.n:=Int.mul_le_mul_of_nonneg_right (by omega) (by omega)
    rw [Int.add_mul,Int.one_mul] at h
    exact h
   have hkn0:0<=kv * p.n:=Int.mul_nonneg (by omega) (by omega)
   obtain⟨pl,hpl⟩:∃ pl:Nat,(pl:Int)=Al.placeF p kv:=⟨(Al.placeF p kv).toNat,by have:Al.placeF p kv=2+kv * p.n:=rfl;omega⟩
   have hplv:Al.placeF p kv=2+kv * p.n:=rfl
   have hplb:(pl:Int)+p.n+4096<=mem:=by have:=show Al.endF p=_ from hEh;omega
   have hlen:(a.length:Int)=p.n:=hv.1
   have hlenH:=Lib.hid hlen
   have hax:=Lib.hid hv.2
   have hS':S1=Al.setRows p (Al.setRow mc pl a) (K.drop (i+1)) (ins.drop (i+1)):=by rw [hS,<-hpl];rfl
   replace hS':=Lib.hid hS'
   have HPl:=fun w0=>ref_place w0 p Va Ab vc cb kv (by omega) (by omega)
   unfold progV at HPl
   rw [<-hpl] at HPl
   clear hpn hkn0 hplv hS hv hpl
   have r0:(0:Int)<=(i:Int):=by omega
   have r1:(i:Int)<(K.length:Int):=by omega
   have r2:decide ((i:Int)<(K.length:Int))=true:=decide_eq_true r1
   obtain⟨row1,hrow1⟩:∃ row1,row1=Al.setRow mc pl a:=⟨_,rfl⟩
   have hS2:=show S1=Al.setRows p (Al.setRow mc pl a) (K.drop (i+1)) (ins.drop (i+1)) from hS'
   rw [<-hrow1] at hS2
   replace hS2:=Lib.hid hS2
   replace hrow1:=Lib.hid hrow1
   have dI:=Lib.hid d0
   have gI:=Lib.hid g0
   have hkaH:=Lib.hid hka
   have HH:Hid (MB w wr kp g mem p Va Ab vc cb mc/\wr.ownsRow bk 3 1 (.slice ka K.length kc) K.length (intsV K)):=Lib.hid ⟨M2,hok⟩
   clear d0 g0 hka dk M2 hok hS' hlen
   go_wp2_with fail
   go_loopg [12] (a.length+1) (fun gk2 v12 w'=>∃ k:Nat,v12= .int .i64 k/\k+gk2=a.length+1/\k<=a.length/\∃ mk:List Int,Hid (row1=Al.setRow mk (pl+k) (a.drop k))/\Hid (MB w w' kp g mem p Va Ab vc cb mk/\w'.ownsRow bk 3 1 (.slice ka K.length kc) K.length (intsV K)))
   case atStart=>exact⟨0,rfl,by omega,by omega,mc,Lib.hid (show row1=_ from hrow1),HH⟩
   case round=>
    obtain⟨k,rfl,hg2,hk2,mk,HR,HM⟩:=hrel
    have hrw:=show row1=Al.setRow mk (pl+k) (a.drop k) from HR
    obtain⟨M2,hok⟩:=show MB w wr kp g mem p Va Ab vc cb mk/\wr.ownsRow bk 3 1 (.slice ka K.length kc) K.length (intsV K) from HM
    clear HH HR HM
    have hlen:=show (a.length:Int)=p.n from hlenH
    obtain⟨p0,p1,p2,p3⟩:=M2.p.cells
    by_cases hkl:k<a.length
    ·obtain⟨k3,rfl⟩:∃ k3,gk=k3+1:=⟨gk - 1,by omega⟩
     rw [setRow_step hkl] at hrw
     obtain⟨ad0,hA0,c0'⟩:=intsC_get (show (Kd.int .i64).C w A0 a.length a from gI) hkl hkl
     have hx:=(show ∀ (x:Int),x∈a->0<=x/\x<p.q from hax) a[k] (List.getElem_mem hkl)
     obtain⟨x,hxe⟩:∃ x,x=a[k]:=⟨_,rfl⟩
     rw [<-hxe] at c0' hrw hx
     subst hA0
     clear hxe
     replace c0':=cell_since M2.b c0'
     have d0:=cell_since M2.b (show w.cell? (ad.add i)=_ from dI)
     obtain⟨gi,hka,dk⟩:=ints_get (own_ints hok) hil
     subst hka
     have hkv2:K[i]=kv:=(show kv=K[i] from hkvH).symm
     rw [hkv2] at dk
     obtain⟨xo,s0,y0⟩:=M2.word (j:=pl+k) (by omega)
     have n1:g≠kp:=Ne.symm M2.ne
     have n2:g≠gi:=fun e=>by
      obtain⟨c1,hc1⟩:=own_type M2.m rfl
      exact own_ne_blk hok hc1 (by decide) (by rw [e];rfl)
     have hadb:(ad.add i).block<w.heap.size:=cell_lt (show w.cell? (ad.add i)=_ from dI)
     have had0:(ad0.add k).block<w.heap.size:=cell_lt (intsC_cell (show (Kd.int .i64).C w (some ad0) a.length a from gI) hkl rfl)
     have hgb:w.heap.size<=g:=(word_set M2.m 0 0).2
     have n3:g≠(ad.add i).block:=by omega
     have n4:g≠(ad0.add k).block:=by omega
     have M2d:=M2.drew
     have hokd:=hok.drew
     have wx:IntKind.u64.wrap x=x:=IntWalk.u64_in _ (by omega)
     have wpk:IntKind.i64.wrap ((pl:Int)+(k:Int))=(pl:Int)+(k:Int):=IntWalk.i64_in _ (by omega)
     have q0:(0:Int)<=(k:Int):=by omega
     have q1:(k:Int)<(a.length:Int):=by omega
     have q2:decide ((k:Int)<p.n)=true:=decide_eq_true (by omega)
     have q3:(0:Int)<=(pl:Int)+(k:Int):=by omega
     have q4:(pl:Int)+(k:Int)<(mem:Int):=by omega
     have q5:((pl:Int)+(k:Int)).toNat=pl+k:=by omega
     clear hlen
     have HH2:Hid (MB w wr kp g mem p Va Ab vc cb mk/\wr.ownsRow bk 3 1 (.slice (some ⟨gi,0,none⟩) K.length kc) K.length (intsV K)):=Lib.hid ⟨M2,hok⟩
     go_wp2_with fail
     go_region_held3 (fun w'=>w'.cell? ⟨kp,0,none⟩=some (.int .i64 p.q)/\w'.cell? ⟨kp,1,none⟩=some (.int .i64 p.n)/\w'.cell? ⟨kp,2,none⟩=some (.slice Va p.vars.length vc)/\w'.cell? ⟨kp,3,none⟩=some (.slice Ab p.body.length cb)/\w'.cell? ⟨gi,i,none⟩=some (.int .i64 kv)/\w'.cell? (ad.add i)=some (.slice (some ad0) a.length c0)/\w'.cell? (ad0.add k)=some (.int .i64 x)) (first|(refine⟨?_,?_,?_,?_,?_,?_,?_⟩<;> assumption)|(refine⟨?_,?_,?_,?_,?_,?_,?_⟩<;> first|(rw [World.cell?_setCell_far _ _ _ _ n1];assumption)|(rw [World.cell?_setCell_far _ _ _ _ n2];assumption)|(rw [World.cell?_setCell_far _ _ _ _ n3];assumption)|(rw [World.cell?_setCell_far _ _ _ _ n4];assumption))|go_keep) (first
      |(go_at_call 27;refine (HPl _).mono ?_;rintro e w2 ⟨rfl,hb2⟩;replace hb2:=undrew hb2;have M3:=M2.below hb2;have hok3:=own_of hok fun k hk=>hb2.block k (hok.lt k hk).2;obtain⟨e0,e1,e2,e3⟩:=M3.p.cells;have e4:=cell_since hb2 dk;have e5:=cell_since hb2 d0;have e6:=cell_since hb2 c0';have e7:=cell_since hb2 s0;have e8:=frozen_since hb2 s0 y0))
     obtain⟨W4,hW4⟩:∃ W4,W4=w2.setCell ⟨g,pl+k,none⟩ (.int .u64 x):=⟨_,rfl⟩
     have HN:Hid (row1=Al.setRow (mk.set (pl+k) x) (pl+(k+1)) (a.drop (k+1))):=Lib.hid hrw
     have HN2:Hid (MB w W4 kp g mem p Va Ab vc cb (mk.set (pl+k) x)/\W4.ownsRow bk 3 1 (.slice (some ⟨gi,0,none⟩) K.length kc) K.length (intsV K)):=by rw [hW4];exact Lib.hid ⟨M3.set _ _,M3.keep hok3 (by decide) _ _⟩
     rw [<-hW4]
     clear hW4 hrw M3 M2 hok hok3 e0 e1 e2 e3 e4 e5 e6 e7 e8 p0 p1 p2 p3 d0 c0' dk s0 y0 hb2 HH2 M2d hokd
     go_wp2_with fail
     go_roundg k3
     case measure=>omega
     case rel=>exact⟨k+1,by simp,by omega,by omega,_,HN,HN2⟩
    ·have hke:k=a.length:=by omega
     have q2:decide ((k:Int)<p.n)=false:=decide_eq_false (by omega)
     rw [hke,List.drop_length] at hrw
     have hmk:mk=row1:=hrw.symm
     have HN:Hid (MB w wr kp g mem p Va Ab vc cb mk/\wr.ownsRow bk 3 1 (.slice ka K.length kc) K.length (intsV K)):=Lib.hid ⟨M2,hok⟩
     have HS3:Hid (S1=Al.setRows p mk (K.drop (i+1)) (ins.drop (i+1))):=by rw [hmk];exact hS2
     clear hmk hrw M2 hok hke hlen
     go_wp2_with fail
     go_roundg k1
     case measure=>omega
     case rel=>exact⟨i+1,by simp,by omega,by omega,mk,HS3,HN⟩
  ·obtain rfl:i=K.length:=by omega
   have t1:decide ((K.length:Int)<(K.length:Int))=false:=by simp
   rw [List.drop_length] at hS
   have hS2:S1=mc:=by rw [hS];unfold Al.setRows;rfl
   have hFM:=show FM=Al.setRow S1 (Al.endF p).toNat tape from HFM3
   rw [hS2] at hFM
   obtain⟨en,hen⟩:∃ en:Nat,(en:Int)=Al.endF p:=⟨(Al.endF p).toNat,by have:=show Al.endF p=_ from hEh;omega⟩
   have hen2:(Al.endF p).toNat=en:=by omega
   rw [hen2] at hFM
   have hEb:(en:Int)+4096<=mem:=by omega
   have HTp:=fun w0=>ref_tape w0 p Va Ab vc cb (by omega) (by omega)
   unfold progV at HTp
   rw [<-hen] at HTp
   have HFI:=Lib.hid hFM
   have HH:Hid (MB w wr kp g mem p Va Ab vc cb mc/\wr.ownsRow bk 3 1 (.slice ka K.length kc) K.length (intsV K)):=Lib.hid ⟨M2,hok⟩
   clear hFM hen hen2 hS2 hS M2 hok
   go_wp2_with fail
   go_loopg [13] (tape.length+1) (fun gk v13 w'=>∃ k:Nat,v13= .int .i64 k/\k+gk=tape.length+1/\k<=tape.length/\∃ mk:List Int,Hid (FM=Al.setRow mk (en+k) (tape.drop k))/\Hid (MB w w' kp g mem p Va Ab vc cb mk/\w'.ownsRow bk 3 1 (.slice ka K.length kc) K.length (intsV K)))
   case atStart=>exact⟨0,rfl,by omega,by omega,mc,Lib.hid (show FM=_ from HFI),HH⟩
   case round=>
    obtain⟨k,rfl,hg2,hk2,mk,HR,HM⟩:=hrel
    have hrw:=show FM=Al.setRow mk (en+k) (tape.drop k) from HR
    obtain⟨M2,hok⟩:=show MB w wr kp g mem p Va Ab vc cb mk/\wr.ownsRow bk 3 1 (.slice ka K.length kc) K.length (intsV K) from HM
    clear HH HR HM
    obtain⟨p0,p1,p2,p3⟩:=M2.p.cells
    by_cases hkl:k<tape.length
    ·obtain⟨k3,rfl⟩:∃ k3,gk=k3+1:=⟨gk - 1,by omega⟩
     rw [setRow_step hkl] at hrw
     obtain⟨ad0,rfl,c0'⟩:=intsC_get (show (Kd.int .u32).C w Ta tape.length tape from HT) hkl hkl
     have had0:(ad0.add k).block<w.heap.size:=cell_lt c0'
     have hx:=(show ∀ (x:Int),x∈tape->0<=x/\x<4294967296 from ht0h) tape[k] (List.getElem_mem hkl)
     obtain⟨x,hxe⟩:∃ x,x=tape[k]:=⟨_,rfl⟩
     rw [<-hxe] at c0' hrw hx
     clear hxe
     replace c0':=cell_since M2.b c0'
     obtain⟨xo,s0,y0⟩:=M2.word (j:=en+k) (by omega)
     have n1:g≠kp:=Ne.symm M2.ne
     have hgb:w.heap.size<=g:=(word_set M2.m 0 0).2
     have n4:g≠(ad0.add k).block:=by omega
     have wx:IntKind.u64.wrap x=x:=IntWalk.u64_in _ (by omega)
     have wpk:IntKind.i64.wrap ((en:Int)+(k:Int))=(en:Int)+(k:Int):=IntWalk.i64_in _ (by omega)
     have q0:(0:Int)<=(k:Int):=by omega
     have q1:(k:Int)<(tape.length:Int):=by omega
     have q2:decide ((k:Int)<(tape.length:Int))=true:=decide_eq_true q1
     have q3:(0:Int)<=(en:Int)+(k:Int):=by omega
     have q4:(en:Int)+(k:Int)<(mem:Int):=by omega
     have q5:((en:Int)+(k:Int)).toNat=en+k:=by omega
     go_wp2_with fail
     go_region_held3 (fun w'=>w'.cell? ⟨kp,0,none⟩=some (.int .i64 p.q)/\w'.cell? ⟨kp,1,none⟩=some (.int .i64 p.n)/\w'.cell? ⟨kp,2,none⟩=some (.slice Va p.vars.length vc)/\w'.cell? ⟨kp,3,none⟩=some (.slice Ab p.body.length cb)/\w'.cell? (ad0.add k)=some (.int .u32 x)) (first|(refine⟨?_,?_,?_,?_,?_⟩<;> assumption)|(refine⟨?_,?_,?_,?_,?_⟩<;> first|(rw [World.cell?_setCell_far _ _ _ _ n1];assumption)|(rw [World.cell?_setCell_far _ _ _ _ n4];assumption))|go_keep) (first
      |(go_at_call 24;refine (HTp _).mono ?_;rintro e w2 ⟨rfl,hb2⟩;replace hb2:=undrew hb2;have M3:=M2.below hb2;have hok3:=own_of hok fun k hk=>hb2.block k (hok.lt k hk).2;obtain⟨e0,e1,e2,e3⟩:=M3.p.cells;have e6:=cell_since hb2 c0';have e7:=cell_since hb2 s0;have e8:=frozen_since hb2 s0 y0))
     obtain⟨W4,hW4⟩:∃ W4,W4=w2.setCell ⟨g,en+k,none⟩ (.int .u64 x):=⟨_,rfl⟩
     have HN:Hid (FM=Al.setRow (mk.set (en+k) x) (en+(k+1)) (tape.drop (k+1))):=Lib.hid hrw
     have HN2:Hid (MB w W4 kp g mem p Va Ab vc cb (mk.set (en+k) x)/\W4.ownsRow bk 3 1 (.slice ka K.length kc) K.length (intsV K)):=by rw [hW4];exact Lib.hid ⟨M3.set _ _,M3.keep hok3 (by decide) _ _⟩
     rw [<-hW4]
     clear hW4 hrw M3 M2 hok hok3 e0 e1 e2 e3 e6 e7 e8 p0 p1 p2 p3 c0' s0 y0 hb2
     go_wp2_with fail
     go_roundg k3
     case measure=>omega
     case rel=>exact⟨k+1,by simp,by omega,by omega,_,HN,HN2⟩
    ·obtain rfl:k=tape.length:=by omega
     have q2:decide ((tape.length:Int)<(tape.length:Int))=false:=decide_eq_false (by omega)
     rw [List.drop_length] at hrw
     have hmk:mk=FM:=hrw.symm
     have hm:=M2.m
     have hb:=M2.b
     rw [hmk] at hm
     clear hmk hrw M2 hok
     go_wp2_with fail
     exact bodyPost_ret (v:= .slice (some ⟨g,0,none⟩) mem mem) (by simp [results,Tryz.results11,go_sem]) rfl ⟨_,rfl,hm,hb⟩
end Go.Proofs.YtkplfaionpplaaaGreatDoor
namespace Go.Proofs
open Go.Shelf
def Tryz.lays264_ren:Go.Shelf.Ren:=⟨fun|264=>83|n=>n,fun|53=>56|46=>144|n=>n,fun|n=>n⟩
theorem Tryz.lays264:Go.Proofs.Lays.n264 Tryz.prog Tryz.lays264_ren:={
 mixed:=by kernel_rfl
 f264:=Tryz.func83.trans (congrArg some (by kernel_rfl))
 t46:=Tryz.underlying144
 a46:=Tryz.isAgg144
 z46:=Tryz.sizeOf144
 v46:=Tryz.zeroValue144
 t53:=Tryz.underlying56
 a53:=Tryz.isAgg56
 z53:=Tryz.sizeOf56
 v53:=Tryz.zeroValue56}
open Go.RowKit Go.Lib in
theorem Tryz.bits_Mul64 (x y:Nat)(hx:x<18446744073709551616)(hy:y<18446744073709551616)(w:World):
 Calls Tryz.prog 83 #[.int .u64 x,.int .u64 y] w fun e w'=>e= .returned (.tuple #[.int .u64 ((x * y / 18446744073709551616:Nat):Int),.int .u64 ((x * y % 18446744073709551616:Nat):Int)])/\w'=w:=Any.bits_Mul64 Tryz.lays264 x y hx hy w
end Go.Proofs
namespace Go.Proofs.YtkplfaionpplaaaGreatDoor
open Go.RowKit
theorem mach_one (w:World)(b:Bool):Calls Tryz.prog 43 #[.bool b] w fun e w'=>e= .returned (.int .i64 (if b then 1 else 0))/\w'=w:=by
 cases b
 all_goals
  go_enter Tryz.func43,Tryz.ntmps43
  go_wp2_with fail
 ·exact bodyPost_ret (v:= .int .i64 0) (by simp [results,Tryz.results43,go_sem]) rfl ⟨rfl,rfl⟩
 ·exact bodyPost_ret (v:= .int .i64 1) (by simp [results,Tryz.results43,go_sem]) rfl ⟨rfl,rfl⟩
theorem and63:∀ k:Nat,k<64->bits BinOp.and IntKind.i64 (k:Int) 63=(k:Int):=by decide
theorem wrapU_is (n:Int):IntKind.u64.wrap n=Al.wrapU n:=by unfold Al.wrapU;rw [IntKind.wrap_u64]
theorem value_1 (w:World)(d x y z k a b c:Int)(ha:0<=a/\a<18446744073709551616)(hb:0<=b/\b<18446744073709551616)(hk:0<=k/\k<=63):
  Calls Tryz.prog 45 #[.agg #[.int .i64 1,.int .i64 d,.int .i64 x,.int .i64 y,.int .i64 z,.int .i64 k],.int .u64 a,.int .u64 b,.int .u64 c] w fun e w'=>e= .returned (.tuple #[.int .u64 (Al.wvalue ⟨1,d,x,y,z,k⟩ a b c),.bool true])/\Below w.heap.size w w':=by
 have hb0:Below w.heap.size w (w.alloc (.cells #[.int .i64 1,.int .i64 d,.int .i64 x,.int .i64 y,.int .i64 z,.int .i64 k] 97)):=(Below.refl _ _).alloc (Nat.le_refl _) _
 have hv:Al.wvalue ⟨1,d,x,y,z,k⟩ a b c=k:=by unfold Al.wvalue;simp only [if_true];unfold Al.wrapU;omega
 rw [hv]
 clear hv
 have t0:decide (0<=k)=true:=decide_eq_true hk.1
 have t1:decide (k<=63)=true:=decide_eq_true hk.2
 go_enter Tryz.func45,Tryz.ntmps45
 go_wp2_with fail
 exact bodyPost_ret (v:= .tuple #[.int .u64 (k),.bool true]) (by simp [results,Tryz.results45,go_sem]) rfl ⟨rfl,hb0⟩
theorem value_1n (w:World)(d x y z k a b c:Int)(ha:0<=a/\a<18446744073709551616)(hb:0<=b/\b<18446744073709551616)(hk:k<0):
  Calls Tryz.prog 45 #[.agg #[.int .i64 1,.int .i64 d,.int .i64 x,.int .i64 y,.int .i64 z,.int .i64 k],.int .u64 a,.int .u64 b,.int .u64 c] w fun e w'=>e= .returned (.tuple #[.int .u64 (Al.wvalue ⟨1,d,x,y,z,k⟩ a b c),.bool true])/\Below w.heap.size w w':=by
 have hb0:Below w.heap.size w (w.alloc (.cells #[.int .i64 1,.int .i64 d,.int .i64 x,.int .i64 y,.int .i64 z,.int .i64 k] 97)):=(Below.refl _ _).alloc (Nat.le_refl _) _
 have hv:Al.wvalue ⟨1,d,x,y,z,k⟩ a b c=Al.wrapU k:=rfl
 rw [hv]
 clear hv
 have t0:decide (0<=k)=false:=decide_eq_false (by omega)
 go_enter Tryz.func45,Tryz.ntmps45
 go_wp2_with fail
 rw [wrapU_is]
 exact bodyPost_ret (v:= .tuple #[.int .u64 (Al.wrapU k),.bool true]) (by simp [results,Tryz.results45,go_sem]) rfl ⟨rfl,hb0⟩
theorem value_1g (w:World)(d x y z k a b c:Int)(ha:0<=a/\a<18446744073709551616)(hb:0<=b/\b<18446744073709551616)(hk:63<k):
  Calls Tryz.prog 45 #[.agg #[.int .i64 1,.int .i64 d,.int .i64 x,.int .i64 y,.int .i64 z,.int .i64 k],.int .u64 a,.int .u64 b,.int .u64 c] w fun e w'=>e= .returned (.tuple #[.int .u64 (Al.wvalue ⟨1,d,x,y,z,k⟩ a b c),.bool true])/\Below w.heap.size w w':=by
 have hb0:Below w.heap.size w (w.alloc (.cells #[.int .i64 1,.int .i64 d,.int .i64 x,.int .i64 y,.int .i64 z,.int .i64 k] 97)):=(Below.refl _ _).alloc (Nat.le_refl _) _
 have hv:Al.wvalue ⟨1,d,x,y,z,k⟩ a b c=Al.wrapU k:=rfl
 rw [hv]
 clear hv
 have t0:decide (0<=k)=true:=decide_eq_true (by omega)
 have t1:decide (k<=63)=false:=decide_eq_false (by omega)
 go_enter Tryz.func45,Tryz.ntmps45
 go_wp2_with fail
 rw [wrapU_is]
 exact bodyPost_ret (v:= .tuple #[.int .u64 (Al.wrapU k),.bool true]) (by simp [results,Tryz.results45,go_sem]) rfl ⟨rfl,hb0⟩
theorem value_2 (w:World)(d x y z k a b c:Int)(ha:0<=a/\a<18446744073709551616)(hb:0<=b/\b<18446744073709551616)(hk:0<=k/\k<=63):
  Calls Tryz.prog 45 #[.agg #[.int .i64 2,.int .i64 d,.int .i64 x,.int .i64 y,.int .i64 z,.int .i64 k],.int .u64 a,.int .u64 b,.int .u64 c] w fun e w'=>e= .returned (.tuple #[.int .u64 (Al.wvalue ⟨2,d,x,y,z,k⟩ a b c),.bool true])/\Below w.heap.size w w':=by
 have hb0:Below w.heap.size w (w.alloc (.cells #[.int .i64 2,.int .i64 d,.int .i64 x,.int .i64 y,.int .i64 z,.int .i64 k] 97)):=(Below.refl _ _).alloc (Nat.le_refl _) _
 have hv:Al.wvalue ⟨2,d,x,y,z,k⟩ a b c=a:=rfl
 rw [hv]
 clear hv
 have t0:decide (0<=k)=true:=decide_eq_true hk.1
 have t1:decide (k<=63)=true:=decide_eq_true hk.2
 go_enter Tryz.func45,Tryz.ntmps45
 go_wp2_with fail
 exact bodyPost_ret (v:= .tuple #[.int .u64 (a),.bool true]) (by simp [results,Tryz.results45,go_sem]) rfl ⟨rfl,hb0⟩
theorem value_3 (w:World)(d x y z k a b c:Int)(ha:0<=a/\a<18446744073709551616)(hb:0<=b/\b<18446744073709551616)(hk:0<=k/\k<=63):
  Calls Tryz.prog 45 #[.agg #[.int .i64 3,.int .i64 d,.int .i64 x,.int .i64 y,.int .i64 z,.int .i64 k],.int .u64 a,.int .u64 b,.int .u64 c] w fun e w'=>e= .returned (.tuple #[.int .u64 (Al.wvalue ⟨3,d,x,y,z,k⟩ a b c),.bool true])/\Below w.heap.size w w':=by
 have hb0:Below w.heap.size w (w.alloc (.cells #[.int .i64 3,.int .i64 d,.int .i64 x,.int .i64 y,.int .i64 z,.int .i64 k] 97)):=(Below.refl _ _).alloc (Nat.le_refl _) _
 have hv:Al.wvalue ⟨3,d,x,y,z,k⟩ a b c=Al.wrapU (a+b):=rfl
 rw [hv]
 clear hv
 have t0:decide (0<=k)=true:=decide_eq_true hk.1
 have t1:decide (k<=63)=true:=decide_eq_true hk.2
 go_enter Tryz.func45,Tryz.ntmps45
 go_wp2_with fail
 rw [wrapU_is]
 exact bodyPost_ret (v:= .tuple #[.int .u64 (Al.wrapU (a+b)),.bool true]) (by simp [results,Tryz.results45,go_sem]) rfl ⟨rfl,hb0⟩
theorem value_4 (w:World)(d x y z k a b c:Int)(ha:0<=a/\a<18446744073709551616)(hb:0<=b/\b<18446744073709551616)(hk:0<=k/\k<=63):
  Calls Tryz.prog 45 #[.agg #[.int .i64 4,.int .i64 d,.int .i64 x,.int .i64 y,.int .i64 z,.int .i64 k],.int .u64 a,.int .u64 b,.int .u64 c] w fun e w'=>e= .returned (.tuple #[.int .u64 (Al.wvalue ⟨4,d,x,y,z,k⟩ a b c),.bool true])/\Below w.heap.size w w':=by
 have hb0:Below w.heap.size w (w.alloc (.cells #[.int .i64 4,.int .i64 d,.int .i64 x,.int .i64 y,.int .i64 z,.int .i64 k] 97)):=(Below.refl _ _).alloc (Nat.le_refl _) _
 have hv:Al.wvalue ⟨4,d,x,y,z,k⟩ a b c=Al.wrapU (a - b):=rfl
 rw [hv]
 clear hv
 have t0:decide (0<=k)=true:=decide_eq_true hk.1
 have t1:decide (k<=63)=true:=decide_eq_true hk.2
 go_enter Tryz.func45,Tryz.ntmps45
 go_wp2_with fail
 rw [wrapU_is]
 exact bodyPost_ret (v:= .tuple #[.int .u64 (Al.wrapU (a - b)),.bool true]) (by simp [results,Tryz.results45,go_sem]) rfl ⟨rfl,hb0⟩
theorem value_5 (w:World)(d x y z k a b c:Int)(ha:0<=a/\a<18446744073709551616)(hb:0<=b/\b<18446744073709551616)(hk:0<=k/\k<=63):
  Calls Tryz.prog 45 #[.agg #[.int .i64 5,.int .i64 d,.int .i64 x,.int .i64 y,.int .i64 z,.int .i64 k],.int .u64 a,.int .u64 b,.int .u64 c] w fun e w'=>e= .returned (.tuple #[.int .u64 (Al.wvalue ⟨5,d,x,y,z,k⟩ a b c),.bool true])/\Below w.heap.size w w':=by
 have hb0:Below w.heap.size w (w.alloc (.cells #[.int .i64 5,.int .i64 d,.int .i64 x,.int .i64 y,.int .i64 z,.int .i64 k] 97)):=(Below.refl _ _).alloc (Nat.le_refl _) _
 have hv:Al.wvalue ⟨5,d,x,y,z,k⟩ a b c=Al.wrapU (a * b):=rfl
 rw [hv]
 clear hv
 have t0:decide (0<=k)=true:=decide_eq_true hk.1
 have t1:decide (k<=63)=true:=decide_eq_true hk.2
 go_enter Tryz.func45,Tryz.ntmps45
 go_wp2_with fail
 rw [wrapU_is]
 exact bodyPost_ret (v:= .tuple #[.int .u64 (Al.wrapU (a * b)),.bool true]) (by simp [results,Tryz.results45,go_sem]) rfl ⟨rfl,hb0⟩
theorem value_6 (w:World)(d x y z k a b c:Int)(ha:0<=a/\a<18446744073709551616)(hb:0<=b/\b<18446744073709551616)(hk:0<=k/\k<=63):
  Calls Tryz.prog 45 #[.agg #[.int .i64 6,.int .i64 d,.int .i64 x,.int .i64 y,.int .i64 z,.int .i64 k],.int .u64 a,.int .u64 b,.int .u64 c] w fun e w'=>e= .returned (.tuple #[.int .u64 (Al.wvalue ⟨6,d,x,y,z,k⟩ a b c),.bool true])/\Below w.heap.size w w':=by
 have hb0:Below w.heap.size w (w.alloc (.cells #[.int .i64 6,.int .i64 d,.int .i64 x,.int .i64 y,.int .i64 z,.int .i64 k] 97)):=(Below.refl _ _).alloc (Nat.le_refl _) _
 have hv:Al.wvalue ⟨6,d,x,y,z,k⟩ a b c=a * b / 18446744073709551616:=rfl
 rw [hv]
 clear hv
 have t0:decide (0<=k)=true:=decide_eq_true hk.1
 have t1:decide (k<=63)=true:=decide_eq_true hk.2
 obtain⟨a,rfl⟩:=Int.eq_ofNat_of_zero_le ha.1
 obtain⟨b,rfl⟩:=Int.eq_ofNat_of_zero_le hb.1
 have HM:=fun w0=>Tryz.bits_Mul64 a b (by omega) (by omega) w0
 go_enter Tryz.func45,Tryz.ntmps45
 go_wp2_with (first|(go_at_call 83;refine (HM _).mono ?_;rintro e w1 ⟨rfl,rfl⟩))
 exact bodyPost_ret (v:= .tuple #[.int .u64 ((a:Int) * b / 18446744073709551616),.bool true]) (by simp [results,Tryz.results45,go_sem]) rfl ⟨rfl,hb0⟩
theorem value_7 (w:World)(d x y z k a b c:Int)(ha:0<=a/\a<18446744073709551616)(hb:0<=b/\b<18446744073709551616)(hk:0<=k/\k<=63):
  Calls Tryz.prog 45 #[.agg #[.int .i64 7,.int .i64 d,.int .i64 x,.int .i64 y,.int .i64 z,.int .i64 k],.int .u64 a,.int .u64 b,.int .u64 c] w fun e w'=>e= .returned (.tuple #[.int .u64 (Al.wvalue ⟨7,d,x,y,z,k⟩ a b c),.bool true])/\Below w.heap.size w w':=by
 have hb0:Below w.heap.size w (w.alloc (.cells #[.int .i64 7,.int .i64 d,.int .i64 x,.int .i64 y,.int .i64 z,.int .i64 k] 97)):=(Below.refl _ _).alloc (Nat.le_refl _) _
 have hv:Al.wvalue ⟨7,d,x,y,z,k⟩ a b c=Al.wand a b:=rfl
 rw [hv]
 clear hv
 have t0:decide (0<=k)=true:=decide_eq_true hk.1
 have t1:decide (k<=63)=true:=decide_eq_true hk.2
 obtain⟨a,rfl⟩:=Int.eq_ofNat_of_zero_le ha.1
 obtain⟨b,rfl⟩:=Int.eq_ofNat_of_zero_le hb.1
 go_enter Tryz.func45,Tryz.ntmps45
 go_wp2_with fail
 have hx:bits BinOp.and IntKind.u64 (a:Int) (b:Int)=Al.wand a b:=bits_and_u64_nat a b (by omega) (by omega)
 rw [hx]
 exact bodyPost_ret (v:= .tuple #[.int .u64 (Al.wand a b),.bool true]) (by simp [results,Tryz.results45,go_sem]) rfl ⟨rfl,hb0⟩
theorem value_8 (w:World)(d x y z k a b c:Int)(ha:0<=a/\a<18446744073709551616)(hb:0<=b/\b<18446744073709551616)(hk:0<=k/\k<=63):
  Calls Tryz.prog 45 #[.agg #[.int .i64 8,.int .i64 d,.int .i64 x,.int .i64 y,.int .i64 z,.int .i64 k],.int .u64 a,.int .u64 b,.int .u64 c] w fun e w'=>e= .returned (.tuple #[.int .u64 (Al.wvalue ⟨8,d,x,y,z,k⟩ a b c),.bool true])/\Below w.heap.size w w':=by
 have hb0:Below w.heap.size w (w.alloc (.cells #[.int .i64 8,.int .i64 d,.int .i64 x,.int .i64 y,.int .i64 z,.int .i64 k] 97)):=(Below.refl _ _).alloc (Nat.le_refl _) _
 have hv:Al.wvalue ⟨8,d,x,y,z,k⟩ a b c=Al.wor a b:=rfl
 rw [hv]
 clear hv
 have t0:decide (0<=k)=true:=decide_eq_true hk.1
 have t1:decide (k<=63)=true:=decide_eq_true hk.2
 obtain⟨a,rfl⟩:=Int.eq_ofNat_of_zero_le ha.1
 obtain⟨b,rfl⟩:=Int.eq_ofNat_of_zero_le hb.1
 go_enter Tryz.func45,Tryz.ntmps45
 go_wp2_with fail
 have hx:bits BinOp.or IntKind.u64 (a:Int) (b:Int)=Al.wor a b:=bits_or_u64_nat a b (by omega) (by omega)
 rw [hx]
 exact bodyPost_ret (v:= .tuple #[.int .u64 (Al.wor a b),.bool true]) (by simp [results,Tryz.results45,go_sem]) rfl ⟨rfl,hb0⟩
theorem value_9 (w:World)(d x y z k a b c:Int)(ha:0<=a/\a<18446744073709551616)(hb:0<=b/\b<18446744073709551616)(hk:0<=k/\k<=63):
  Calls Tryz.prog 45 #[.agg #[.int .i64 9,.int .i64 d,.int .i64 x,.int .i64 y,.int .i64 z,.int .i64 k],.int .u64 a,.int .u64 b,.int .u64 c] w fun e w'=>e= .returned (.tuple #[.int .u64 (Al.wvalue ⟨9,d,x,y,z,k⟩ a b c),.bool true])/\Below w.heap.size w w':=by
 have hb0:Below w.heap.size w (w.alloc (.cells #[.int .i64 9,.int .i64 d,.int .i64 x,.int .i64 y,.int .i64 z,.int .i64 k] 97)):=(Below.refl _ _).alloc (Nat.le_refl _) _
 have hv:Al.wvalue ⟨9,d,x,y,z,k⟩ a b c=Al.wxor a b:=rfl
 rw [hv]
 clear hv
 have t0:decide (0<=k)=true:=decide_eq_true hk.1
 have t1:decide (k<=63)=true:=decide_eq_true hk.2
 obtain⟨a,rfl⟩:=Int.eq_ofNat_of_zero_le ha.1
 obtain⟨b,rfl⟩:=Int.eq_ofNat_of_zero_le hb.1
 go_enter Tryz.func45,Tryz.ntmps45
 go_wp2_with fail
 have hx:bits BinOp.xor IntKind.u64 (a:Int) (b:Int)=Al.wxor a b:=bits_xor_u64_nat a b (by omega) (by omega)
 rw [hx]
 exact bodyPost_ret (v:= .tuple #[.int .u64 (Al.wxor a b),.bool true]) (by simp [results,Tryz.results45,go_sem]) rfl ⟨rfl,hb0⟩
theorem value_13 (w:World)(d x y z k a b c:Int)(ha:0<=a/\a<18446744073709551616)(hb:0<=b/\b<18446744073709551616)(hk:0<=k/\k<=63):
  Calls Tryz.prog 45 #[.agg #[.int .i64 13,.int .i64 d,.int .i64 x,.int .i64 y,.int .i64 z,.int .i64 k],.int .u64 a,.int .u64 b,.int .u64 c] w fun e w'=>e= .returned (.tuple #[.int .u64 (Al.wvalue ⟨13,d,x,y,z,k⟩ a b c),.bool true])/\Below w.heap.size w w':=by
 have hb0:Below w.heap.size w (w.alloc (.cells #[.int .i64 13,.int .i64 d,.int .i64 x,.int .i64 y,.int .i64 z,.int .i64 k] 97)):=(Below.refl _ _).alloc (Nat.le_refl _) _
 have hv:Al.wvalue ⟨13,d,x,y,z,k⟩ a b c=(if a<b then 1 else 0):=rfl
 rw [hv]
 clear hv
 have t0:decide (0<=k)=true:=decide_eq_true hk.1
 have t1:decide (k<=63)=true:=decide_eq_true hk.2
 by_cases h:a<b
 ·have t2:decide (a<b)=true:=decide_eq_true h
  rw [if_pos h]
  go_enter Tryz.func45,Tryz.ntmps45
  go_wp2_with fail
  exact bodyPost_ret (v:= .tuple #[.int .u64 (1),.bool true]) (by simp [results,Tryz.results45,go_sem]) rfl ⟨rfl,hb0⟩
 ·have t2:decide (a<b)=false:=decide_eq_false h
  rw [if_neg h]
  go_enter Tryz.func45,Tryz.ntmps45
  go_wp2_with fail
  exact bodyPost_ret (v:= .tuple #[.int .u64 (0),.bool true]) (by simp [results,Tryz.results45,go_sem]) rfl ⟨rfl,hb0⟩
theorem value_14 (w:World)(d x y z k a b c:Int)(ha:0<=a/\a<18446744073709551616)(hb:0<=b/\b<18446744073709551616)(hk:0<=k/\k<=63):
  Calls Tryz.prog 45 #[.agg #[.int .i64 14,.int .i64 d,.int .i64 x,.int .i64 y,.int .i64 z,.int .i64 k],.int .u64 a,.int .u64 b,.int .u64 c] w fun e w'=>e= .returned (.tuple #[.int .u64 (Al.wvalue ⟨14,d,x,y,z,k⟩ a b c),.bool true])/\Below w.heap.size w w':=by
 have hb0:Below w.heap.size w (w.alloc (.cells #[.int .i64 14,.int .i64 d,.int .i64 x,.int .i64 y,.int .i64 z,.int .i64 k] 97)):=(Below.refl _ _).alloc (Nat.le_refl _) _
 have hv:Al.wvalue ⟨14,d,x,y,z,k⟩ a b c=(if a≠0 then b else c):=rfl
 rw [hv]
 clear hv
 have t0:decide (0<=k)=true:=decide_eq_true hk.1
 have t1:decide (k<=63)=true:=decide_eq_true hk.2
 by_cases h:a=0
 ·have t2:(a !=0)=false:=by simp [h]
  have t3:(a == 0)=true:=by simp [h]
  rw [if_neg (by simpa using h)]
  go_enter Tryz.func45,Tryz.ntmps45
  go_wp2_with fail
  exact bodyPost_ret (v:= .tuple #[.int .u64 (c),.bool true]) (by simp [results,Tryz.results45,go_sem]) rfl ⟨rfl,hb0⟩
 ·have t2:(a !=0)=true:=by simp [h]
  have t3:(a == 0)=false:=by simp [h]
  rw [if_pos h]
  go_enter Tryz.func45,Tryz.ntmps45
  go_wp2_with fail
  exact bodyPost_ret (v:= .tuple #[.int .u64 (b),.bool true]) (by simp [results,Tryz.results45,go_sem]) rfl ⟨rfl,hb0⟩
theorem value_10 (w:World)(d x y z k a b c:Int)(ha:0<=a/\a<18446744073709551616)(hb:0<=b/\b<18446744073709551616)(hk:0<=k/\k<=63):
  Calls Tryz.prog 45 #[.agg #[.int .i64 10,.int .i64 d,.int .i64 x,.int .i64 y,.int .i64 z,.int .i64 k],.int .u64 a,.int .u64 b,.int .u64 c] w fun e w'=>e= .returned (.tuple #[.int .u64 (Al.wvalue ⟨10,d,x,y,z,k⟩ a b c),.bool true])/\Below w.heap.size w w':=by
 have hb0:Below w.heap.size w (w.alloc (.cells #[.int .i64 10,.int .i64 d,.int .i64 x,.int .i64 y,.int .i64 z,.int .i64 k] 97)):=(Below.refl _ _).alloc (Nat.le_refl _) _
 have hv:Al.wvalue ⟨10,d,x,y,z,k⟩ a b c=Al.wrapU (a * 2 ^ k.toNat):=by unfold Al.wvalue;simp only;rw [if_neg (by decide),if_neg (by decide),if_neg (by decide),if_neg (by decide),if_neg (by decide),if_neg (by decide),if_neg (by decide),if_neg (by decide),if_neg (by decide),if_neg (by decide),if_neg (by decide),if_pos hk];rfl
 rw [hv]
 clear hv
 have t0:decide (0<=k)=true:=decide_eq_true hk.1
 have t1:decide (k<=63)=true:=decide_eq_true hk.2
 obtain⟨k,rfl⟩:=Int.eq_ofNat_of_zero_le hk.1
 have h6:k<64:=by omega
 have h7:IntKind.u64.wrap (k:Int)=k:=IntWalk.u64_in _ (by omega)
 go_enter Tryz.func45,Tryz.ntmps45
 go_wp2_with fail
 simp only [and63 k h6,h7,Int.toNat_natCast,Nat.min_eq_left (Nat.le_of_lt h6)]
 rw [wrapU_is]
 exact bodyPost_ret (v:= .tuple #[.int .u64 (Al.wrapU (a * 2 ^ k)),.bool true]) (by simp [results,Tryz.results45,go_sem]) rfl ⟨rfl,hb0⟩
theorem value_11 (w:World)(d x y z k a b c:Int)(ha:0<=a/\a<18446744073709551616)(hb:0<=b/\b<18446744073709551616)(hk:0<=k/\k<=63):
  Calls Tryz.prog 45 #[.agg #[.int .i64 11,.int .i64 d,.int .i64 x,.int .i64 y,.int .i64 z,.int .i64 k],.int .u64 a,.int .u64 b,.int .u64 c] w fun e w'=>e= .returned (.tuple #[.int .u64 (Al.wvalue ⟨11,d,x,y,z,k⟩ a b c),.bool true])/\Below w.heap.size w w':=by
 have hb0:Below w.heap.size w (w.alloc (.cells #[.int .i64 11,.int .i64 d,.int .i64 x,.int .i64 y,.int .i64 z,.int .i64 k] 97)):=(Below.refl _ _).alloc (Nat.le_refl _) _
 have hv:Al.wvalue ⟨11,d,x,y,z,k⟩ a b c=a / 2 ^ k.toNat:=by unfold Al.wvalue;simp only;rw [if_neg (by decide),if_neg (by decide),if_neg (by decide),if_neg (by decide),if_neg (by decide),if_neg (by decide),if_neg (by decide),if_neg (by decide),if_neg (by decide),if_neg (by decide),if_neg (by decide),if_pos hk];rfl
 rw [hv]
 clear hv
 have t0:decide (0<=k)=true:=decide_eq_true hk.1
 have t1:decide (k<=63)=true:=decide_eq_true hk.2
 obtain⟨k,rfl⟩:=Int.eq_ofNat_of_zero_le hk.1
 have h6:k<64:=by omega
 have h7:IntKind.u64.wrap (k:Int)=k:=IntWalk.u64_in _ (by omega)
 go_enter Tryz.func45,Tryz.ntmps45
 go_wp2_with fail
 simp only [and63 k h6,h7,Int.toNat_natCast,Nat.min_eq_left (Nat.le_of_lt h6)]
 exact bodyPost_ret (v:= .tuple #[.int .u64 (a / 2 ^ k),.bool true]) (by simp [results,Tryz.results45,go_sem]) rfl ⟨rfl,hb0⟩
theorem value_12 (w:World)(d x y z k a b c:Int)(ha:0<=a/\a<18446744073709551616)(hb:0<=b/\b<18446744073709551616)(hk:0<=k/\k<=63):
  Calls Tryz.prog 45 #[.agg #[.int .i64 12,.int .i64 d,.int .i64 x,.int .i64 y,.int .i64 z,.int .i64 k],.int .u64 a,.int .u64 b,.int .u64 c] w fun e w'=>e= .returned (.tuple #[.int .u64 (Al.wvalue ⟨12,d,x,y,z,k⟩ a b c),.bool true])/\Below w.heap.size w w':=by
 have hb0:Below w.heap.size w (w.alloc (.cells #[.int .i64 12,.int .i64 d,.int .i64 x,.int .i64 y,.int .i64 z,.int .i64 k] 97)):=(Below.refl _ _).alloc (Nat.le_refl _) _
 have hv:Al.wvalue ⟨12,d,x,y,z,k⟩ a b c=Al.wrapU (Al.sgn a / 2 ^ k.toNat):=by unfold Al.wvalue;simp only;rw [if_neg (by decide),if_neg (by decide),if_neg (by decide),if_neg (by decide),if_neg (by decide),if_neg (by decide),if_neg (by decide),if_neg (by decide),if_neg (by decide),if_neg (by decide),if_neg (by decide),if_pos hk];rfl
 rw [hv]
 clear hv
 have t0:decide (0<=k)=true:=decide_eq_true hk.1
 have t1:decide (k<=63)=true:=decide_eq_true hk.2
 obtain⟨k,rfl⟩:=Int.eq_ofNat_of_zero_le hk.1
 have h6:k<64:=by omega
 have h7:IntKind.u64.wrap (k:Int)=k:=IntWalk.u64_in _ (by omega)
 go_enter Tryz.func45,Tryz.ntmps45
 go_wp2_with fail
 simp only [and63 k h6,h7,Int.toNat_natCast,Nat.min_eq_left (Nat.le_of_lt h6)]
 rw [wrapU_is,show wrap64 a=Al.sgn a by unfold wrap64 Al.sgn;split<;> omega]
 exact bodyPost_ret (v:= .tuple #[.int .u64 (Al.wrapU (Al.sgn a / 2 ^ k)),.bool true]) (by simp [results,Tryz.results45,go_sem]) rfl ⟨rfl,hb0⟩
theorem mach_value (w:World)(i:Al.Inst)(a b c:Int)(ha:0<=a/\a<18446744073709551616)(hb:0<=b/\b<18446744073709551616)(hop:1<=i.op/\i.op<=14)(hk:i.op≠1->0<=i.k/\i.k<=63):
  Calls Tryz.prog 45 #[.agg #[.int .i64 i.op,.int .i64 i.d,.int .i64 i.a,.int .i64 i.b,.int .i64 i.c,.int .i64 i.k],.int .u64 a,.int .u64 b,.int .u64 c] w fun e w'=>e= .returned (.tuple #[.int .u64 (Al.wvalue i a b c),.bool true])/\Below w.heap.size w w':=by
 obtain⟨op,d,x,y,z,k⟩:=i
 simp only at hop hk ⊢
 have h:op=1\/op=2\/op=3\/op=4\/op=5\/op=6\/op=7\/op=8\/op=9\/op=10\/op=11\/op=12\/op=13\/op=14:=by omega
 rcases h with rfl|rfl|rfl|rfl|rfl|rfl|rfl|rfl|rfl|rfl|rfl|rfl|rfl|rfl
 ·by_cases h0:k<0
  ·exact value_1n w d x y z k a b c ha hb h0
  ·by_cases h1:63<k
   ·exact value_1g w d x y z k a b c ha hb h1
   ·exact value_1 w d x y z k a b c ha hb (by omega)
 ·exact value_2 w d x y z k a b c ha hb (hk (by decide))
 ·exact value_3 w d x y z k a b c ha hb (hk (by decide))
 ·exact value_4 w d x y z k a b c ha hb (hk (by decide))
 ·exact value_5 w d x y z k a b c ha hb (hk (by decide))
 ·exact value_6 w d x y z k a b c ha hb (hk (by decide))
 ·exact value_7 w d x y z k a b c ha hb (hk (by decide))
 ·exact value_8 w d x y z k a b c ha hb (hk (by decide))
 ·exact value_9 w d x y z k a b c ha hb (hk (by decide))
 ·exact value_10 w d x y z k a b c ha hb (hk (by decide))
 ·exact value_11 w d x y z k a b c ha hb (hk (by decide))
 ·exact value_12 w d x y z k a b c ha hb (hk (by decide))
 ·exact value_13 w d x y z k a b c ha hb (hk (by decide))
 ·exact value_14 w d x y z k a b c ha hb (hk (by decide))
theorem insts_at6 (l:List Al.Inst)(k:Nat)(hk:k<l.length)(j:Nat)(hj:j<6):(instsV l)[k * 6+j]?=(instCells l[k])[j]?:=by
 induction l generalizing k with
 |nil=>simp at hk
 |cons s l ih=>
  cases k with
  |zero=>simp only [instsV,List.flatMap_cons,Nat.zero_mul,Nat.zero_add];rw [List.getElem?_append_left (by simp [instCells];omega)];rfl
  |succ k=>
   have e:(k+1) * 6+j=6+(k * 6+j):=by omega
   simp only [instsV,List.flatMap_cons] at ih ⊢
   rw [e,List.getElem?_append_right (by simp [instCells])]
   have:=ih k (by simpa using hk)
   simpa [instCells] using this
theorem insts_get {w:World}{base:Nat}{a:Option Addr}{cap:Nat}{L:List Al.Inst}(h:w.ownsRow base 97 6 (.slice a L.length cap) L.length (instsV L)){j:Nat}(hj:j<L.length):
  ∃ g,a=some ⟨g,0,none⟩/\w.cell? ⟨g,j * 6,none⟩=some (.int .i64 (L[j]).op)/\w.cell? ⟨g,j * 6+1,none⟩=some (.int .i64 (L[j]).d)/\w.cell? ⟨g,j * 6+2,none⟩=some (.int .i64 (L[j]).a)/\w.cell? ⟨g,j * 6+3,none⟩=some (.int .i64 (L[j]).b)/\w.cell? ⟨g,j * 6+4,none⟩=some (.int .i64 (L[j]).c)/\w.cell? ⟨g,j * 6+5,none⟩=some (.int .i64 (L[j]).k):=by
 obtain⟨g,c,hv,hgb,hgl⟩:=h.form (by omega)
 simp only [Value.slice.injEq] at hv
 have hl:=insts_len L
 obtain⟨rfl, -,rfl⟩:=hv
 have f:∀ i,i<6->w.cell? ⟨g,j * 6+i,none⟩=(instCells L[j])[i]?:=fun i hi=>by rw [h.cellAt _ (by omega),insts_at6 L j hj i hi]
 exact⟨g,rfl,f 0 (by omega),f 1 (by omega),f 2 (by omega),f 3 (by omega),f 4 (by omega),f 5 (by omega)⟩
structure RC where
 kc:Nat
 kx:Nat
 kr:Nat
 gm:Nat
 gr:Nat
 mem:Nat
 mcap:Nat
 ia:Option Addr
 ic:Nat
 c:List Al.Inst
structure RW (w0 w:World)(C:RC)(regs mm:List Int)(leaks:List Al.Leak)(vl:Value)(steps:Int):Prop where
 cb:w.heap[C.kc]?=some (.cells #[.slice C.ia C.c.length C.ic,.int .i64 24,.int .i64 C.mem] 53 (0,0))
 xb:w.heap[C.kx]?=some (.cells #[.int .i64 0,.slice none 0 0,.slice none 0 0,.int .i64 0,.int .i64 0] 51 (0,0))
 rb:w.heap[C.kr]?=some (.cells #[.int .i64 0,.slice (some ⟨C.gm,0,none⟩) C.mem C.mcap,vl,.int .i64 steps,.int .i64 (-1)] 51 (0,0))
 mo:w.ownsRow w0.heap.size 56 1 (.slice (some ⟨C.gm,0,none⟩) C.mem C.mcap) C.mem (wordsV mm)
 ro:w.ownsRow w0.heap.size 56 1 (.slice (some ⟨C.gr,0,none⟩) 25 25) 25 (wordsV regs)
 lo:w.ownsRow w0.heap.size 103 2 vl leaks.length (leaksV leaks)
 b:Below w0.heap.size w0 w
 ne:C.gm≠C.gr
 nx:C.kx≠C.kr
 nc:C.kc≠C.kr
 hr:w0.heap.size<=C.kr
 hx:w0.heap.size<=C.kx
section
variable {w0 w w':World} {C:RC} {regs mm:List Int} {leaks:List Al.Leak} {vl:Value} {steps:Int}
theorem RW.of (h:RW w0 w C regs mm leaks vl steps)(hs:∀ (k:Nat) (o:Obj),w.heap[k]?=some o->w'.heap[k]?=some o)(hb:Below w0.heap.size w0 w'):RW w0 w' C regs mm leaks vl steps:=
 have f:∀ {base:Nat} {e:TypeId} {size:Nat} {v:Value} {n:Nat} {xs:List Value},w.ownsRow base e size v n xs->w'.ownsRow base e size v n xs:=fun ho=>own_of ho fun k hk=>by
  obtain⟨c,hc⟩:=own_type ho hk
  rw [hs k _ hc,hc]
 ⟨hs _ _ h.cb,hs _ _ h.xb,hs _ _ h.rb,f h.mo,f h.ro,f h.lo,hb,h.ne,h.nx,h.nc,h.hr,h.hx⟩
theorem RW.alloc (h:RW w0 w C regs mm leaks vl steps)(o:Obj):RW w0 (w.alloc o) C regs mm leaks vl steps:=h.of (fun k x hx=>alloc_blk o hx) (h.b.alloc h.b.size _)
theorem RW.below (h:RW w0 w C regs mm leaks vl steps)(hb:Below w.heap.size w w'):RW w0 w' C regs mm leaks vl steps:=h.of (fun k x hx=>below_blk hb hx (blk_lt hx)) (h.b.trans (lower_below hb h.b.size))
theorem RW.drew (h:RW w0 w C regs mm leaks vl steps):RW w0 w.drew C regs mm leaks vl steps:=h.of (fun k x hx=>hx) (below_drew' h.b)
theorem RW.drewN (h:RW w0 w C regs mm leaks vl steps)(n:Nat):RW w0 (w.drewN n) C regs mm leaks vl steps:=h.of (fun k x hx=>hx) ⟨h.b.os,h.b.tape,h.b.output,h.b.size,h.b.block⟩
theorem own_set_ne {w:World}{base k j:Nat}{e t:TypeId}{size:Nat}{v:Value}{n:Nat}{xs:List Value}{c:Array Value}{f:Nat×Nat}(h:w.ownsRow base e size v n xs)(hk:w.heap[k]?=some (.cells c t f))(ht:t≠e)(u:Value):(w.setCell ⟨k,j,none⟩ u).ownsRow base e size v n xs:=
 own_of h fun i hi=>set_blk_ne _ _ fun e2=>own_ne_blk h hk ht (by rw [hi,e2])
theorem RW.kc_ne (h:RW w0 w C regs mm leaks vl steps):C.kc≠C.gr/\C.kc≠C.gm/\C.kx≠C.gr/\C.kx≠C.gm/\C.kr≠C.gr/\C.kr≠C.gm:=
 have f:∀ {k g cap n:Nat} {c:Array Value} {t:TypeId} {xs:List Value},w.heap[k]?=some (.cells c t (0,0))->w.ownsRow w0.heap.size 56 1 (.slice (some ⟨g,0,none⟩) n cap) n xs->t≠56->k≠g:=fun hk ho ht e=>by subst e;exact own_ne_blk ho hk ht rfl
 ⟨f h.cb h.ro (by decide),f h.cb h.mo (by decide),f h.xb h.ro (by decide),f h.xb h.mo (by decide),f h.rb h.ro (by decide),f h.rb h.mo (by decide)⟩
theorem RW.field (h:RW w0 w C regs mm leaks vl steps)(j:Nat)(u:Value):(w.setCell ⟨C.kr,j,none⟩ u).heap[C.kc]?=w.heap[C.kc]?/\(w.setCell ⟨C.kr,j,none⟩ u).heap[C.kx]?=w.heap[C.kx]?/\
  (w.setCell ⟨C.kr,j,none⟩ u).ownsRow w0.heap.size 56 1 (.slice (some ⟨C.gm,0,none⟩) C.mem C.mcap) C.mem (wordsV mm)/\(w.setCell ⟨C.kr,j,none⟩ u).ownsRow w0.heap.size 56 1 (.slice (some ⟨C.gr,0,none⟩) 25 25) 25 (wordsV regs)/\
  (w.setCell ⟨C.kr,j,none⟩ u).ownsRow w0.heap.size 103 2 vl leaks.length (leaksV leaks)/\Below w0.heap.size w0 (w.setCell ⟨C.kr,j,none⟩ u):=
 ⟨set_blk_ne _ _ h.nc,set_blk_ne _ _ h.nx,own_set_ne h.mo h.rb (by decide) u,own_set_ne h.ro h.rb (by decide) u,own_set_ne h.lo h.rb (by decide) u,below_set h.b h.hr⟩
theorem RW.step (h:RW w0 w C regs mm leaks vl steps)(n:Int):RW w0 (w.setCell ⟨C.kr,3,none⟩ (.int .i64 n)) C regs mm leaks vl n:=by
 obtain⟨f1,f2,f3,f4,f5,f6⟩:=h.field 3 (.int .i64 n)
 exact⟨f1.trans h.cb,f2.trans h.xb,by simpa using set_blk h.rb 3 (.int .i64 n),f3,f4,f5,f6,h.ne,h.nx,h.nc,h.hr,h.hx⟩
theorem RW.reg (h:RW w0 w C regs mm leaks vl steps)(j:Nat)(x:Int):RW w0 (w.setCell ⟨C.gr,j,none⟩ (.int .u64 x)) C (regs.set j x) mm leaks vl steps:=by
 obtain⟨n1,n2,n3,n4,n5,n6⟩:=h.kc_ne
 obtain⟨c,hc⟩:=own_type h.ro rfl
 exact⟨by rw [set_blk_ne _ _ n1];exact h.cb,by rw [set_blk_ne _ _ n3];exact h.xb,by rw [set_blk_ne _ _ n5];exact h.rb,own_of h.mo fun k hk=>set_blk_ne _ _ (by cases hk;exact h.ne),(word_set h.ro j x).1,own_set_ne h.lo hc (by decide) _,below_set h.b (word_set h.ro j x).2,h.ne,h.nx,h.nc,h.hr,h.hx⟩
theorem RW.word (h:RW w0 w C regs mm leaks vl steps)(j:Nat)(x:Int):RW w0 (w.setCell ⟨C.gm,j,none⟩ (.int .u64 x)) C regs (mm.set j x) leaks vl steps:=by
 obtain⟨n1,n2,n3,n4,n5,n6⟩:=h.kc_ne
 obtain⟨c,hc⟩:=own_type h.mo rfl
 exact⟨by rw [set_blk_ne _ _ n2];exact h.cb,by rw [set_blk_ne _ _ n4];exact h.xb,by rw [set_blk_ne _ _ n6];exact h.rb,(word_set h.mo j x).1,own_of h.ro fun k hk=>set_blk_ne _ _ (by cases hk;exact Ne.symm h.ne),own_set_ne h.lo hc (by decide) _,below_set h.b (word_set h.mo j x).2,h.ne,h.nx,h.nc,h.hr,h.hx⟩
theorem RW.leak (h:RW w0 w C regs mm leaks vl steps){l:Al.Leak}{v1:Value}{w1:World}(ho:w1.ownsRow w0.heap.size 103 2 v1 (leaks.length+1) (leaksV leaks++leakCells l))(hg:w1=w\/w.grownBy w1 vl.ownBlock):
  RW w0 (w1.setCell ⟨C.kr,2,none⟩ v1) C regs mm (leaks++[l]) v1 steps/\w1.cell? ⟨C.kr,2,none⟩=some vl/\w1.frozen? ⟨C.kr,2,none⟩=false:=by
 have kb:∀ {k:Nat} {c:Array Value} {t:TypeId},w.heap[k]?=some (.cells c t (0,0))->t≠103->w1.heap[k]?=some (.cells c t (0,0)):=fun hk ht=>by
  rcases hg with rfl|hg
  ·exact hk
  ·exact grow_blk hg hk (own_ne_blk h.lo hk ht)
 have ko:∀ {g cap n:Nat} {xs:List Value},w.ownsRow w0.heap.size 56 1 (.slice (some ⟨g,0,none⟩) n cap) n xs->w1.ownsRow w0.heap.size 56 1 (.slice (some ⟨g,0,none⟩) n cap) n xs:=fun ho=>by
  refine own_of ho fun k hk=>?_
  obtain⟨c,hc⟩:=own_type ho hk
  rw [kb hc (by decide),hc]
 have hb1:Below w0.heap.size w0 w1:=below_grown2 h.b hg (fun k hk=>(h.lo.lt k hk).1) h.b.size
 have r1:=kb h.rb (by decide)
 refine⟨⟨?_,?_,by simpa using set_blk r1 2 v1,own_set_ne (ko h.mo) r1 (by decide) _,own_set_ne (ko h.ro) r1 (by decide) _,?_,below_set hb1 h.hr,h.ne,h.nx,h.nc,h.hr,h.hx⟩,(cell_blk r1 _).trans rfl,frozen_blk r1 _⟩
 ·rw [set_blk_ne _ _ h.nc];exact kb h.cb (by decide)
 ·rw [set_blk_ne _ _ h.nx];exact kb h.xb (by decide)
 ·have:=own_set_ne (j:=2) ho r1 (by decide) v1
  rw [leaksV_snoc,List.length_append]
  exact this
theorem RW.cells (h:RW w0 w C regs mm leaks vl steps):w.cell? ⟨C.kc,0,none⟩=some (.slice C.ia C.c.length C.ic)/\w.cell? ⟨C.kc,1,none⟩=some (.int .i64 24)/\w.cell? ⟨C.kc,2,none⟩=some (.int .i64 C.mem)/\
  w.cell? ⟨C.kr,0,none⟩=some (.int .i64 0)/\w.cell? ⟨C.kr,1,none⟩=some (.slice (some ⟨C.gm,0,none⟩) C.mem C.mcap)/\w.cell? ⟨C.kr,2,none⟩=some vl/\w.cell? ⟨C.kr,3,none⟩=some (.int .i64 steps)/\w.cell? ⟨C.kr,4,none⟩=some (.int .i64 (-1)):=
 ⟨(cell_blk h.cb _).trans rfl,(cell_blk h.cb _).trans rfl,(cell_blk h.cb _).trans rfl,(cell_blk h.rb _).trans rfl,(cell_blk h.rb _).trans rfl,(cell_blk h.rb _).trans rfl,(cell_blk h.rb _).trans rfl,(cell_blk h.rb _).trans rfl⟩
theorem RW.froz (h:RW w0 w C regs mm leaks vl steps)(j:Nat):w.frozen? ⟨C.kr,j,none⟩=false:=frozen_blk h.rb _
theorem RW.rlen (h:RW w0 w C regs mm leaks vl steps):regs.length=25:=by have:=own_one h.ro;simpa [wordsV] using this
theorem RW.mlen (h:RW w0 w C regs mm leaks vl steps):mm.length=C.mem:=by have:=own_one h.mo;simpa [wordsV] using this
theorem RW.regAt (h:RW w0 w C regs mm leaks vl steps){j:Nat}(hj:j<25):w.cell? ⟨C.gr,j,none⟩=some (.int .u64 (regs.getD j 0))/\w.frozen? ⟨C.gr,j,none⟩=false:=by
 have hl:=h.rlen
 obtain⟨g,e,h1,h2⟩:=words_get (M:=regs) h.ro (j:=j) (by omega) hl.symm
 cases e
 refine⟨?_,h2⟩
 rw [h1];simp [List.getD_eq_getElem?_getD,show j<regs.length by omega]
theorem RW.memAt (h:RW w0 w C regs mm leaks vl steps){j:Nat}(hj:j<C.mem):w.cell? ⟨C.gm,j,none⟩=some (.int .u64 (mm.getD j 0))/\w.frozen? ⟨C.gm,j,none⟩=false:=by
 have hl:=h.mlen
 obtain⟨g,e,h1,h2⟩:=words_get (M:=mm) h.mo (j:=j) (by omega) hl.symm
 cases e
 refine⟨?_,h2⟩
 rw [h1];simp [List.getD_eq_getElem?_getD,show j<mm.length by omega]
end
end Go.Proofs.YtkplfaionpplaaaGreatDoor
