/- Part 37: B90, P41, B91. -/
import Derived.Test.YtkplfaionpplaaaGreatDoorK36
set_option maxRecDepth 100000
set_option maxHeartbeats 6400000
set_option linter.unusedVariables false
set_option linter.unusedSimpArgs false
namespace Go.Proofs.YtkplfaionpplaaaGreatDoor
open Go.RowKit Go.Proofs.YtkplfaionpplaaaGreatDoorW.PrintWords
theorem own_grown {w w':World}{base base':Nat}{e e':TypeId}{size size' n n':Nat}{v v':Value}{xs xs':List Value}(h:w.ownsRow base e size v n xs)(h':w.ownsRow base' e' size' v' n' xs')(ht:e'≠e)(hg:w'=w\/w.grownBy w' v'.ownBlock):w'.ownsRow base e size v n xs:=by
 rcases hg with rfl|hg
 ·exact h
 ·exact h.kept hg (own_ne h h' ht)
theorem blk_grown {w w':World}{base k:Nat}{e t:TypeId}{size n:Nat}{v:Value}{xs:List Value}{c:Array Value}(hk:w.heap[k]?=some (.cells c t (0,0)))(h:w.ownsRow base e size v n xs)(ht:t≠e)(hg:w'=w\/w.grownBy w' v.ownBlock):w'.heap[k]?=some (.cells c t (0,0)):=by
 rcases hg with rfl|hg
 ·exact hk
 ·exact grow_blk hg hk (own_ne_blk h hk ht)
structure OW (w0 w:World)(kp:Nat)(p:Al.Prog)(Va Ab:Option Addr)(vc cb:Nat)(n:Nat)(V:Al.Vs)(K:List Int)(ka:Option Addr)(kc:Nat)(vo:Value)(os:List Value)(i:Nat):Prop where
 p:PBox w kp p Va Ab vc cb
 k:w.ownsRow w0.heap.size 3 1 (.slice ka K.length kc) K.length (intsV K)
 o:w.ownsRow w0.heap.size 86 1 vo i os
 r:∀ j,j<i->∃ v,os[j]?=some v/\w.ownsRow w0.heap.size 3 1 v n (vecV n (V (K.getD j 0).toNat))
 b:Below w0.heap.size w0 w
section
variable {w0 w w':World} {kp n:Nat} {p:Al.Prog} {Va Ab:Option Addr} {vc cb:Nat} {V:Al.Vs} {K:List Int} {ka:Option Addr} {kc:Nat} {vo:Value} {os:List Value} {i:Nat}
theorem OW.below (h:OW w0 w kp p Va Ab vc cb n V K ka kc vo os i)(hb:Below w.heap.size w w'):OW w0 w' kp p Va Ab vc cb n V K ka kc vo os i:=
 ⟨below_blk hb h.p (blk_lt h.p),own_of h.k fun k hk=>hb.block k (h.k.lt k hk).2,own_of h.o fun k hk=>hb.block k (h.o.lt k hk).2,fun j hj=>by
  obtain⟨v,h1,h2⟩:=h.r j hj
  exact⟨v,h1,own_of h2 fun k hk=>hb.block k (h2.lt k hk).2⟩,h.b.trans (lower_below hb h.b.size)⟩
theorem OW.add (h:OW w0 w kp p Va Ab vc cb n V K ka kc vo os i){o:Obj}{v v1:Value}(hv:w.ownsRow w0.heap.size 3 1 v n (vecV n (V (K.getD i 0).toNat)))(ho:w'.ownsRow w0.heap.size 86 1 v1 (i+1) (os++[v]))(hg:w'=w.alloc o\/(w.alloc o).grownBy w' vo.ownBlock)(hb:Below w0.heap.size w0 w')(hp:PBox w' kp p Va Ab vc cb):
  OW w0 w' kp p Va Ab vc cb n V K ka kc v1 (os++[v]) (i+1):=by
 have ha:=h.o.alloc o
 have hl:=own_one h.o
 refine⟨hp,own_grown (h.k.alloc o) ha (by decide) hg,ho,fun j hj=>?_,hb⟩
 by_cases hji:j<i
 ·obtain⟨u,h1,h2⟩:=h.r j hji
  exact⟨u,by rw [List.getElem?_append_left (by omega)];exact h1,own_grown (h2.alloc o) ha (by decide) hg⟩
 ·have e:j=i:=by omega
  subst e
  exact⟨v,by rw [List.getElem?_append_right (by omega),hl];simp,own_grown (hv.alloc o) ha (by decide) hg⟩
end
theorem ref_outs {w:World}{p:Al.Prog}{Va Ab ma:Option Addr}{vc cb mc M b2:Nat}{mem:List Int}{V:Al.Vs}(hp:PLies w p Va Ab vc cb)(hvl:p.vars.length<=20)(hn:0<=p.n/\p.n<=256)(hq:0<=p.q/\p.q<8388608)(hMM:M<=65536)(hm:w.ownsRow b2 56 1 (.slice ma M mc) M (wordsV mem))
  (hV:∀ v k,v<p.vars.length->k<p.n.toNat->(2+p.n.toNat * v+k<M)/\mem.getD (2+p.n.toNat * v+k) 0=V v k/\0<=V v k/\V v k<p.q):
  Calls Tryz.prog 15 #[.agg #[.int .i64 p.q,.int .i64 p.n,.slice Va p.vars.length vc,.slice Ab p.body.length cb],.slice ma M mc] w fun e w'=>∃ vo,e= .returned (.tuple #[vo,.bool true])/\Below w.heap.size w w'/\
   ∃ os,w'.ownsRow w.heap.size 86 1 vo (Al.kindsOf p.vars 2).length os/\∀ i (h:i<(Al.kindsOf p.vars 2).length),∃ v,os[i]?=some v/\w'.ownsRow w.heap.size 3 1 v p.n.toNat (vecV p.n.toNat (V (Al.kindsOf p.vars 2)[i].toNat)):=by
 obtain⟨j0,hj0,jz0,jz1,jz2⟩:=info_parts Tryz.infoInt
 obtain⟨j1,hj1,kz0,kz1,kz2⟩:=info_parts Tryz.infoInts
 obtain⟨n,hpn⟩:=Int.eq_ofNat_of_zero_le hn.1
 obtain⟨q,hpq⟩:=Int.eq_ofNat_of_zero_le hq.1
 have hn2:n<=256:=by omega
 have hq2:q<8388608:=by omega
 rw [show p.n.toNat=n by omega] at hV ⊢
 obtain⟨K,hK⟩:∃ K,K=Al.kindsOf p.vars 2:=⟨_,rfl⟩
 have hKr:∀ v∈K,0<=v/\v<p.vars.length:=fun v hv=>Al.kindsOf_range (by rw [<-hK];exact hv)
 have hKl:K.length<=1000:=by rw [hK];have:=kindsFrom_len p.vars 2 0;unfold Al.kindsOf;omega
 obtain⟨W,hW⟩:∃ W,W=w.alloc (.cells #[.int .i64 p.q,.int .i64 p.n,.slice Va p.vars.length vc,.slice Ab p.body.length cb] 27):=⟨_,rfl⟩
 have hb0:Below w.heap.size w W:=by rw [hW];exact (Below.refl _ _).alloc (Nat.le_refl _) _
 obtain⟨kp,hkp⟩:∃ kp,kp=w.heap.size:=⟨_,rfl⟩
 have P0:PBox W kp p Va Ab vc cb:=by rw [hW,hkp];exact heap_alloc_new w _
 obtain⟨p0,p1,p2,p3⟩:=P0.cells
 have HKi:=ref_kinds (w:=W) (q:=p.q) (n:=p.n) (vc:=vc) Ab p.body.length cb (Kd.C_below hp.v hb0) (by omega) 2
 rw [<-hK] at HKi ⊢
 have HV:=Lib.hid hV
 have HM:=Lib.hid hm
 have HKr:=Lib.hid hKr
 have hml:mem.length=M:=by have:=own_one hm;simpa [wordsV] using this
 have HPL:∀ kv:Nat,kv<p.vars.length->∀ w0,Calls Tryz.prog 27 #[progV p Va Ab vc cb,.int .i64 kv] w0 fun e w'=>e= .returned (.int .i64 ((2+n * kv:Nat):Int))/\Below w0.heap.size w0 w':=fun kv hkv w0=>by
  have h:=ref_place w0 p Va Ab vc cb kv (by omega) (by omega)
  rw [show Al.placeF p kv=((2+n * kv:Nat):Int) by show 2+(kv:Int) * p.n=_;rw [hpn];simp [Int.mul_comm]] at h
  exact h
 unfold progV at HPL
 replace hkp:=Lib.hid hkp
 replace hK:=Lib.hid hK
 have HP:=Lib.hid hp
 have hwq:IntKind.u64.wrap (q:Int)=q:=IntWalk.u64_in _ (by omega)
 rw [hpq,hpn] at HKi HPL ⊢
 rw [hpq] at p0
 rw [hpn] at p1
 have PB:=Lib.hid P0
 have HB0:=Lib.hid hb0
 rw [hpq,hpn] at hW
 clear hV hm hKr hp P0 hq hn
 go_enter Tryz.func15,Tryz.ntmps15
 go_upto_region 2 with fail
 rw [<-hW]
 clear hW
 rw [show w.heap.size=kp from (show kp=_ from hkp).symm]
 go_wp2_with (first|(go_at_call 33;refine HKi.mono ?_;rintro e w1 ⟨vk,rfl,hk1,hb1⟩;obtain⟨ka,kc,rfl⟩:=own_slice hk1))
 have HH:Hid (OW w w1 kp p Va Ab vc cb n V K ka kc (.slice none 0 0) [] 0):=Lib.hid ⟨below_blk hb1 (show PBox W kp p Va Ab vc cb from PB) (blk_lt PB),own_base hk1 HB0.size,World.ownsRow_nil _ _ _ _,fun j hj=>by omega,(show Below w.heap.size w W from HB0).trans (lower_below hb1 HB0.size)⟩
 clear hk1 hb1 p0 p1 p2 p3 PB HKi HB0
 go_loopg [6,8] (K.length+1) (fun gk v6 v8 w'=>∃ i:Nat,v8= .int .i64 i/\i+gk=K.length+1/\i<=K.length/\Hid (∃ os,OW w w' kp p Va Ab vc cb n V K ka kc v6 os i))
 case atStart=>exact⟨0,rfl,by omega,by omega,Lib.hid ⟨_,HH⟩⟩
 case round=>
  obtain⟨i,rfl,hg,hi2,HR⟩:=hrel
  obtain⟨os,O⟩:=show ∃ os,OW w wr kp p Va Ab vc cb n V K ka kc u6 os i from HR
  clear HH HR
  obtain⟨ao,co,rfl⟩:=own_slice O.o
  by_cases hil:i<K.length
  ·obtain⟨k1,rfl⟩:∃ k1,gk=k1+1:=⟨gk - 1,by omega⟩
   obtain⟨kv,hkv,hkvl⟩:∃ kv:Nat,K[i]=kv/\kv<p.vars.length:=⟨K[i].toNat,by have:=(show ∀ v∈K,0<=v/\v<p.vars.length from HKr) K[i] (List.getElem_mem hil);omega,by have:=(show ∀ v∈K,0<=v/\v<p.vars.length from HKr) K[i] (List.getElem_mem hil);omega⟩
   have hkd:K.getD i 0=kv:=by rw [List.getD_eq_getElem?_getD,List.getElem?_eq_getElem hil,hkv];rfl
   have r0:(0:Int)<=(i:Int):=by omega
   have r1:(i:Int)<(K.length:Int):=by omega
   have r2:decide ((i:Int)<(K.length:Int))=true:=decide_eq_true r1
   obtain⟨gi,hka,dk⟩:=ints_get (own_ints O.k) hil
   rw [hkv] at dk
   have HPl:=HPL kv hkvl
   have HO:=Lib.hid O
   have hbs:=O.b.size
   have hkaH:=Lib.hid hka
   have hkdH:=Lib.hid hkd
   have hkvH:=Lib.hid hkvl
   have i1H:Hid (i+1+k1=K.length+1):=Lib.hid (by omega)
   have HDK:=Lib.hid dk
   clear O dk hkv hkd hka hkvl
   go_wp2_with fail
   obtain⟨wi,hwi⟩:∃ wi,wi=wr:=⟨_,rfl⟩
   rw [<-hwi] at HO HDK hbs
   have HI:Hid (wr.ownsRow wi.heap.size 3 1 (.slice none 0 0) 0 (vecV 0 (V kv))/\Below wi.heap.size wi wr):=Lib.hid ⟨World.ownsRow_nil _ _ _ _,by rw [hwi];exact Below.refl _ _⟩
   clear hwi
   go_loopg [9,10,11] (n+1) (fun gk2 v9 v10 v11 w'=>∃ k:Nat,v10= .int .i64 k/\k+gk2=n+1/\k<=n/\Hid (w'.ownsRow wi.heap.size 3 1 v9 k (vecV k (V kv))/\Below wi.heap.size wi w'))
   case atStart=>exact⟨0,rfl,by omega,by omega,HI⟩
   case round=>
    obtain⟨k,rfl,hg2,hk2,HR⟩:=hrel
    obtain⟨hown,hR⟩:=show wr.ownsRow wi.heap.size 3 1 u9 k (vecV k (V kv))/\Below wi.heap.size wi wr from HR
    clear HI HR
    have O2:=(show OW w wi kp p Va Ab vc cb n V K ka kc (.slice ao i co) os i from HO).below hR
    obtain⟨p0,p1,p2,p3⟩:=O2.p.cells
    by_cases hkl:k<n
    ·obtain⟨k2,rfl⟩:∃ k2,gk=k2+1:=⟨gk - 1,by omega⟩
     obtain⟨v1,v2,v3,v4⟩:=(show ∀ v k,v<p.vars.length->k<n->_/\_/\_/\_ from HV) kv k hkvH hkl
     obtain⟨x,hx⟩:∃ x,x=V kv k:=⟨_,rfl⟩
     rw [<-hx] at v2 v3 v4
     obtain⟨gm,hma,dm, -⟩:=words_get (show w.ownsRow b2 56 1 (.slice ma M mc) M (wordsV mem) from HM) (j:=2+n * kv+k) (by omega) hml.symm
     have hmx:mem[2+n * kv+k]'(by omega)=x:=by rw [<-v2,List.getD_eq_getElem?_getD,List.getElem?_eq_getElem (by omega)];rfl
     rw [hmx] at dm
     obtain⟨at_,hat⟩:∃ at_,at_=2+n * kv:=⟨_,rfl⟩
     rw [<-hat] at HPl dm v1
     replace hat:=Lib.hid hat
     replace hx:=Lib.hid hx
     replace dm:=cell_since O2.b dm
     have dk:=cell_since hR (show wi.cell? ⟨gi,i,none⟩=some (.int .i64 kv) from HDK)
     have s0:(0:Int)<=(at_:Int)+(k:Int):=by omega
     have s1:(at_:Int)+(k:Int)<(M:Int):=by omega
     have s6:((at_:Int)+(k:Int)).toNat=at_+k:=by omega
     have s2:decide ((k:Int)<(n:Int))=true:=decide_eq_true (by omega)
     have s3:decide ((q:Int)<=x)=false:=decide_eq_false (by omega)
     have hcat:IntKind.i64.wrap ((at_:Int)+(k:Int))=(at_:Int)+(k:Int):=IntWalk.i64_in _ (by omega)
     have s4:IntKind.i64.wrap x=x:=IntWalk.i64_in _ (by omega)
     have hka:=hkaH.out
     subst hma hka
     rw [hpq] at p0
     rw [hpn] at p1
     have hdr:=below_drew' (Below.refl wr.heap.size wr)
     go_upto_region 10 with fail
     go_region_held3 (fun w'=>w'.cell? ⟨kp,0,none⟩=some (.int .i64 q)/\w'.cell? ⟨kp,1,none⟩=some (.int .i64 n)/\w'.cell? ⟨kp,2,none⟩=some (.slice Va p.vars.length vc)/\w'.cell? ⟨kp,3,none⟩=some (.slice Ab p.body.length cb)/\w'.cell? ⟨gi,i,none⟩=some (.int .i64 kv)/\w'.cell? ⟨gm,at_+k,none⟩=some (.int .u64 x)) ((refine⟨?_,?_,?_,?_,?_,?_⟩<;> assumption)) (first
      |(go_at_call 27;refine (HPl _).mono ?_;rintro e w3 ⟨rfl,hb3⟩;have hbw:=hdr.trans hb3;have O3:=O2.below hbw;have hR3:=hR.trans (lower_below hbw hR.size);have hown3:=own_of hown fun k hk=>hbw.block k (hown.lt k hk).2;obtain⟨q0,q1,q2,q3⟩:=O3.p.cells;have dk3:=cell_since hbw dk;have dm3:=cell_since hbw dm;rw [hpq] at q0;rw [hpn] at q1;clear O2 hR hown dk dm p0 p1 p2 p3 hb3 hbw hdr))
     have own1:=hown3.alloc (.cells #[.int .i64 x] 3)
     have src1:=row_one w3 hR3.size (.int .i64 x) 3
     have bl1:Below wi.heap.size wi (w3.alloc (.cells #[.int .i64 x] 3)):=hR3.alloc hR3.size _
     go_wp2_with (first
      |(at_builtin;(refine append_row rfl (.tmp 44) (.tmp 47) 86 rfl wi.heap.size 3 j0 _ 1 8 Tryz.underlying86 hj0 jz0 jz1 jz2 rfl (by omega) _ _ _ rfl own1 wi.heap.size _ _ _ rfl src1 (by intro u hu;rw [List.mem_singleton.1 hu];rfl) (by unfold maxLen;omega) (by omega) (by have:=hR3.size;simp;omega) ?_);intro v1 w4 hown1 hgrow1;have hb4:=below_grown2 bl1 hgrow1 (fun k hk=>(own1.lt k hk).1) (by have:=hR3.size;simp;omega)))
     have HN:Hid (w4.ownsRow wi.heap.size 3 1 v1 (k+1) (vecV (k+1) (V kv))/\Below wi.heap.size wi w4):=by
      refine show _/\_ from⟨?_,hb4⟩
      rw [vecV_succ,<-show x=V kv k from hx]
      exact hown1
     clear hown1 hgrow1 hb4 own1 src1 bl1 hown3 dk3 dm3 O3 hR3
     go_roundg k2
     case measure=>omega
     case rel=>exact⟨k+1,by simp,by omega,by omega,HN⟩
    ·have hke:k=n:=by omega
     have s2:decide ((k:Int)<(n:Int))=false:=decide_eq_false (by omega)
     have s5:decide ((n:Int)<(n:Int))=false:=decide_eq_false (by omega)
     subst hke
     obtain⟨a9,c9,rfl⟩:=own_slice hown
     rw [hpn] at p1
     have own1:=O2.o.alloc (.cells #[.slice a9 k c9] 86)
     have src1:=row_one wr O2.b.size (.slice a9 k c9) 86
     have bl1:Below w.heap.size w (wr.alloc (.cells #[.slice a9 k c9] 86)):=O2.b.alloc O2.b.size _
     have hi1:=show i+1+k1=K.length+1 from i1H
     go_wp2_with (first
      |(at_builtin;(refine append_row rfl (.tmp 49) (.tmp 51) 28 rfl w.heap.size 86 j1 _ 1 24 Tryz.underlying28 hj1 kz0 kz1 kz2 rfl (by omega) _ _ _ rfl own1 w.heap.size _ _ _ rfl src1 (by intro u hu;rw [List.mem_singleton.1 hu];rfl) (by unfold maxLen;omega) (by omega) (by have:=O2.b.size;simp;omega) ?_);intro v1 w4 hown1 hgrow1;have hb4:=below_grown2 bl1 hgrow1 (fun k hk=>(own1.lt k hk).1) (by have:=O2.b.size;simp;omega)))
     have HN:Hid (∃ os,OW w w4 kp p Va Ab vc cb k V K ka kc v1 os (i+1)):=Lib.hid ⟨_,O2.add (v:= .slice a9 k c9) (by rw [show K.getD i 0=(kv:Int) from hkdH];exact own_base hown hbs) hown1 hgrow1 hb4 (blk_grown (alloc_blk _ O2.p) own1 (by decide) hgrow1)⟩
     clear hown1 hgrow1 hb4 own1 src1 bl1 hown O2 p0 p1 p2 p3 hR
     go_roundg k1
     case measure=>omega
     case rel=>exact⟨i+1,by simp,by omega,by omega,HN⟩
  ·have hie:i=K.length:=by omega
   have t1:decide ((i:Int)<(K.length:Int))=false:=decide_eq_false (by omega)
   have HO:=Lib.hid O
   clear O
   go_wp2_with fail
   have O:=show OW w wr kp p Va Ab vc cb n V K ka kc (.slice ao i co) os i from HO
   refine bodyPost_ret (v:= .tuple #[.slice ao i co,.bool true]) (by simp [results,Tryz.results15,go_sem]) rfl ⟨_,rfl,O.b,os,by rw [<-hie];exact O.o,fun j hj=>?_⟩
   obtain⟨v,h1,h2⟩:=O.r j (by omega)
   rw [List.getD_eq_getElem?_getD,List.getElem?_eq_getElem hj] at h2
   exact⟨v,h1,h2⟩
theorem same_vectors {w:World}{BA BB m:Nat}{a a2:Option Addr}{cap cap2:Nat}{oa ob:List Value}{X:Nat->List Int}(hA:w.ownsRow BA 86 1 (.slice a m cap) m oa)(hB:w.ownsRow BB 86 1 (.slice a2 m cap2) m ob)
  (rA:∀ i,i<m->∃ v,oa[i]?=some v/\w.ownsRow BA 3 1 v (X i).length (intsV (X i))) (rB:∀ i,i<m->∃ v,ob[i]?=some v/\w.ownsRow BB 3 1 v (X i).length (intsV (X i))) (hL:∀ i,i<m->(X i).length<1000000000000) (hm:m<1000000000000):
  Calls Tryz.prog 16 #[.slice a m cap,.slice a2 m cap2] w fun e w'=>e= .returned (.bool true)/\Below w.heap.size w w':=by
 have H:=Lib.hid (show _/\_ from⟨hA,rA⟩)
 have H2:=Lib.hid (show _/\_ from⟨hB,rB⟩)
 have HL:=Lib.hid hL
 have z:((m:Int) == (m:Int))=true:=beq_self_eq_true _
 have z2:((m:Int) !=(m:Int))=false:=by simp
 clear hA hB rA rB hL
 go_enter Tryz.func16,Tryz.ntmps16
 go_wp2_with fail
 go_loopg [5,6] (m+1) (fun gk v5 v6 w'=>∃ i:Nat,v5= .int .i64 i/\i+gk=m+1/\i<=m/\Hid (Below w.heap.size w w'))
 case atStart=>exact⟨0,rfl,by omega,by omega,Lib.hid (Below.refl _ _)⟩
 case round=>
  obtain⟨i,rfl,hg,hi2,HR⟩:=hrel
  have hR:=show Below w.heap.size w wr from HR
  clear HR
  by_cases hil:i<m
  ·obtain⟨k1,rfl⟩:∃ k1,gk=k1+1:=⟨gk - 1,by omega⟩
   have t1:decide ((i:Int)<(m:Int))=true:=decide_eq_true (by omega)
   have r0:(0:Int)<=(i:Int):=by omega
   have r1:(i:Int)<(m:Int):=by omega
   obtain⟨hA,rA⟩:=show w.ownsRow BA 86 1 (.slice a m cap) m oa/\(∀ i,i<m->∃ v,oa[i]?=some v/\w.ownsRow BA 3 1 v (X i).length (intsV (X i))) from H
   obtain⟨hB,rB⟩:=show w.ownsRow BB 86 1 (.slice a2 m cap2) m ob/\(∀ i,i<m->∃ v,ob[i]?=some v/\w.ownsRow BB 3 1 v (X i).length (intsV (X i))) from H2
   obtain⟨v,hv,hvo⟩:=rA i hil
   obtain⟨u,hu,huo⟩:=rB i hil
   obtain⟨av,cv,rfl⟩:=own_slice hvo
   obtain⟨au,cu,rfl⟩:=own_slice huo
   obtain⟨ga,qa,ea, -, -⟩:=hA.form (by omega)
   obtain⟨gb,qb,eb, -, -⟩:=hB.form (by omega)
   simp only [Value.slice.injEq] at ea eb
   obtain⟨rfl, -,rfl⟩:=ea
   obtain⟨rfl, -,rfl⟩:=eb
   have da:=cell_since hR ((hA.cellAt i (by have:=own_one hA;omega)).trans hv)
   have db:=cell_since hR ((hB.cellAt i (by have:=own_one hB;omega)).trans hu)
   have HSI:∀ w0:World,Below w.heap.size w w0->Calls Tryz.prog 46 #[.slice av (X i).length cv,.slice au (X i).length cu] w0 fun e w'=>e= .returned (.bool true)/\Below w0.heap.size w0 w':=fun w0 hb=>by
    refine (same_ints ((own_ints hvo).below hb) ((own_ints huo).below hb) ((show ∀ i,i<m->(X i).length<1000000000000 from HL) i hil)).mono ?_
    rintro e w' ⟨rfl,h⟩
    exact⟨by simp,h⟩
   have hdr:=below_drew' hR
   have tt:(!true)=false:=rfl
   clear hA hB rA rB hvo huo hv hu
   go_wp2_with fail
   go_region_held3 (fun w'=>w'.cell? ⟨ga,i,none⟩=some (.slice av (X i).length cv)/\w'.cell? ⟨gb,i,none⟩=some (.slice au (X i).length cu)) ((refine⟨?_,?_⟩<;> assumption)) (first
    |(go_at_call 46;refine (HSI _ hdr).mono ?_;rintro e w3 ⟨rfl,hb3⟩;have HN:Hid (Below w.heap.size w w3):=Lib.hid (hdr.trans (lower_below hb3 hdr.size));have da3:=cell_since ((below_drew' (Below.refl wr.heap.size wr)).trans hb3) da;have db3:=cell_since ((below_drew' (Below.refl wr.heap.size wr)).trans hb3) db))
   go_wp2_with fail
   go_roundg k1
   case measure=>omega
   case rel=>exact⟨i+1,by simp,by omega,by omega,HN⟩
  ·have t1:decide ((i:Int)<(m:Int))=false:=decide_eq_false (by omega)
   go_wp2_with fail
   exact bodyPost_ret (v:= .bool true) (by simp [results,Tryz.results16,go_sem]) rfl ⟨rfl,hR⟩
end Go.Proofs.YtkplfaionpplaaaGreatDoor
namespace Go.Proofs.YtkplfaionpplaaaGreatDoor.Al
section
variable {E:Env} {fuel:Nat}
theorem uu_then {f:RS->RS}(h:∀ z,z.used<z.steps->(f z).used<=(f z).steps)(x:RS)(hx:x.used<=x.steps):(x.stepThen fuel f).used<=(x.stepThen fuel f).steps:=by
 unfold RS.stepThen
 split
 ·exact hx
 ·exact h _ (by dsimp only;omega)
theorem uu_times {f:RS->RS}(h:∀ z,z.used<=z.steps->(f z).used<=(f z).steps):∀ (k:Nat) (x:RS),x.used<=x.steps->(timesN f k x).used<=(timesN f k x).steps
 |0,x,hx=>by unfold timesN;exact hx
 |k+1,x,hx=>by
  unfold timesN
  split
  ·exact hx
  ·exact uu_times h k _ (h x hx)
theorem uu_until {a:Nat}{f:RS->RS}(h:∀ z,z.used<=z.steps->(f z).used<=(f z).steps):∀ (k:Nat) (x:RS),x.used<=x.steps->(untilN fuel a f k x).used<=(untilN fuel a f k x).steps
 |0,x,hx=>by unfold untilN;exact hx
 |k+1,x,hx=>by
  unfold untilN
  refine uu_then (fun z hz=>?_) x hx
  have h1:=h z (Nat.le_of_lt hz)
  dsimp only
  split
  ·exact h1
  ·split
   ·exact h1
   ·exact uu_until h k _ h1
theorem uu_draw {d:Nat}:∀ (l:List Int) (i:Nat) (f:Nat->Int) (x:RS),x.used<=x.steps->(drawGo E fuel d l i f x).used<=(drawGo E fuel d l i f x).steps
 |[],i,f,x,hx=>by unfold drawGo;split<;> exact hx
 |t :: rest,i,f,x,hx=>by
  unfold drawGo
  split
  ·refine uu_then (fun z hz=>?_) x hx
   dsimp only
   split
   ·exact uu_draw rest _ _ _ hz
   ·exact uu_draw rest _ _ _ hz
  ·exact hx
mutual
theorem uu_stmt:∀ (s:Stmt) (x:RS),x.used<=x.steps->(exS E fuel s x).used<=(exS E fuel s x).steps
 |⟨op,d,a,b,c,k,body,els⟩,x,hx=>by
  unfold exS
  split
  ·exact uu_until (fun z hz=>uu_list body z hz) _ _ hx
  ·refine uu_then (fun z hz=>?_) x hx
   dsimp only
   split
   ·exact uu_draw _ _ _ _ (Nat.le_of_lt hz)
   ·split
    ·split
     ·exact uu_list body _ (Nat.le_of_lt hz)
     ·exact uu_list els _ (Nat.le_of_lt hz)
    ·split
     ·exact uu_times (fun z hz=>uu_list body z hz) _ _ (Nat.le_of_lt hz)
     ·split
      ·exact Nat.le_of_lt hz
      ·exact Nat.le_of_lt hz
theorem uu_list:∀ (l:List Stmt) (x:RS),x.used<=x.steps->(exL E fuel l x).used<=(exL E fuel l x).steps
 |[],x,hx=>by unfold exL;exact hx
 |s :: l,x,hx=>by
  unfold exL
  split
  ·exact hx
  ·exact uu_list l _ (uu_stmt s x hx)
end
end
theorem exF_used (p:Prog)(ins:List (List Int))(tape:List Int)(fuel:Nat):(exF p ins tape fuel).used<=(exF p ins tape fuel).steps:=uu_list p.body _ (Nat.zero_le _)
theorem means_run {p:Prog}(hF:Fine p)(hn:p.n<=16){c:List CI}{len:Nat}(hlen:len=bodyP p.body+(genL (envOf p (bitsOf p.q)) 0 0 0 (bodyP p.body) p.body).length)
  (hc:c=progC (envOf p (bitsOf p.q)) p.body (outT len) (outG len p.body)) {ins:List (List Int)} {tape:List Int} (hi:InOk p ins tape) (ht:∀ x∈tape,0<=x/\x<4294967296) {y:RS} (hy:y=exF p ins tape 3000) (h4:y.code≠4):
  ∃ (fuel:Nat) (mem':List Int) (L:List Leak) (t:Int),((y.steps:Int)+1) * (16 * p.n * p.n+16384)=(fuel:Int)/\fuel<=2147483648/\(y.steps<=3000/\y.used<=3000)/\(0<=y.code/\y.code<=2)/\
   rrun (insts c) (spansOf c) (envOf p (bitsOf p.q)).mem fuel 0 (List.replicate 25 0) (memF p (envOf p (bitsOf p.q)).mem ins tape) [] 0=⟨y.code,mem',L,t, -1⟩/\
   mem'.length=(envOf p (bitsOf p.q)).mem/\mem'.getD 1 0=y.used/\(y.code=0->y.over=false/\∀ v k,v<p.vars.length->k<p.n.toNat->(2+p.n.toNat * v+k<(envOf p (bitsOf p.q)).mem)/\mem'.getD (2+p.n.toNat * v+k) 0=y.V v k/\0<=y.V v k/\y.V v k<p.q):=by
 obtain⟨C,h⟩:=runs_law hF hlen hc 3000
 have hst:=exF_steps p ins tape 3000
 have hud:=exF_used p ins tape 3000
 rw [<-hy] at hst hud
 have h4':=hF.n.1
 have e2:(envOf p (bitsOf p.q)).n=p.n.toNat:=rfl
 have e5:(envOf p (bitsOf p.q)).nv=p.vars.length:=rfl
 have e1:((y.steps:Int)+1) * (16 * p.n * p.n+16384)=(((y.steps+1) * Wd (envOf p (bitsOf p.q)):Nat):Int):=by
  have e3:((p.n.toNat:Nat):Int)=p.n:=by omega
  unfold Wd
  rw [e2]
  rw [Int.natCast_mul,Int.natCast_add,Int.natCast_add,Int.natCast_mul,Int.natCast_mul,e3]
  rfl
 have hW:Wd (envOf p (bitsOf p.q))<=20480:=by
  have h5:p.n.toNat<=16:=by omega
  have h6:p.n.toNat * p.n.toNat<=16 * 16:=Nat.mul_le_mul h5 h5
  unfold Wd
  rw [e2,Nat.mul_assoc]
  omega
 have e4:(y.steps+1) * Wd (envOf p (bitsOf p.q))<=3001 * 20480:=Nat.mul_le_mul (by omega) hW
 obtain⟨mem',t,r,hl,hu,⟨c0,c2,co⟩,hend⟩:=h ins tape hi ht (by rw [<-hy];exact h4) (spansOf c) (.inr rfl) ((y.steps+1) * Wd (envOf p (bitsOf p.q))) (by rw [<-hy];exact Nat.le_refl _)
 rw [<-hy] at r hu c0 c2 co hend
 refine⟨_,mem',_,t,e1,by omega,⟨hst,by omega⟩,⟨c0,c2⟩,r,hl,hu,fun hz=>?_⟩
 have ho:y.over=false:=by
  cases h:y.over with
  |false=>rfl
  |true=>exact absurd hz (co h)
 refine⟨ho,fun v k hv hk=>?_⟩
 obtain⟨g1,g2,g3⟩:=(hend ho).2 v k hv hk
 refine⟨?_,g1,g2,g3⟩
 have hp:=Env.place_lt (E:=envOf p (bitsOf p.q)) (v:=v) (k:=k) (by rw [e5];exact hv) (by rw [e2];exact hk)
 have hpl:(envOf p (bitsOf p.q)).place v=2+p.n.toNat * v:=rfl
 rw [hpl] at hp
 unfold Env.mem Env.scratch
 omega
end Go.Proofs.YtkplfaionpplaaaGreatDoor.Al
namespace Go.Proofs.YtkplfaionpplaaaGreatDoor
open Go.RowKit Go.Proofs.YtkplfaionpplaaaGreatDoorW.PrintLast Go.Proofs.YtkplfaionpplaaaGreatDoorW.PrintWords
theorem below_drewN {B:Nat}{w W:World}(h:Below B w W)(n:Nat):Below B w (W.drewN n):=⟨h.os,h.tape,h.output,h.size,h.block⟩
def RunO (w:World)(p:Al.Prog)(ins:List (List Int))(tape:List Int)(F:Nat)(e:Ending)(w':World):Prop:=
 ∃ (c st us:Int) (lo co le ce:Nat) (ao ae:Option Addr),e= .returned (.tuple #[.agg #[.int .i64 c,.slice ao lo co,.slice ae le ce,.int .i64 st,.int .i64 us],faultV (runF p ins tape F)])/\Below w.heap.size w w'/\
  ((runF p ins tape F).code=0->(Al.checkF p).code=0/\(Al.inputsF p.q p.n p.vars ins tape F).code=0/\c=(Al.exF p ins tape F).code/\st=(Al.exF p ins tape F).steps/\us=(Al.exF p ins tape F).used/\
   ((Al.exF p ins tape F).over=false->lo=(Al.kindsOf p.vars 2).length/\∃ os,w'.ownsRow w.heap.size 86 1 (.slice ao lo co) lo os/\∀ i (h:i<(Al.kindsOf p.vars 2).length),∃ v,os[i]?=some v/\w'.ownsRow w.heap.size 3 1 v p.n.toNat (vecV p.n.toNat ((Al.exF p ins tape F).V (Al.kindsOf p.vars 2)[i].toNat))))
theorem RunAny.o {w w':World}{p:Al.Prog}{ins:List (List Int)}{tape:List Int}{F:Nat}{e:Ending}(h:RunAny w p ins tape F e w'):RunO w p ins tape F e w':=by
 rcases h with⟨h1,rfl,h2⟩|⟨h1,h2,h3⟩
 ·exact⟨_,_,_,_,_,_,_,_,_,rfl,h2,fun h=>absurd h h1⟩
 ·obtain⟨vo,ve,es,rfl,⟨a,l,c,rfl⟩,h4,h5,h6,h7⟩:=h3
  obtain⟨ae,ce,rfl⟩:=own_slice h4
  have hi:=inputs_fine h2
  have hr:runF p ins tape F= .fine:=by
   unfold runF
   rw [if_neg (by omega)]
   exact hi
  refine⟨_,_,_,_,_,_,_,_,_,by rw [hr];rfl,h6,fun _=>⟨h1,h2,rfl,rfl,rfl,fun ho=>?_⟩⟩
  obtain⟨os,g1,g2⟩:=h7 ho
  obtain⟨a2,c2,e2⟩:=own_slice g1
  simp only [Value.slice.injEq] at e2
  obtain⟨rfl,rfl,rfl⟩:=e2
  exact⟨rfl,os,g1,g2⟩
theorem run_means {w:World}{p:Al.Prog}{CI:List Al.Inst}{sp:List Al.Span}{M fuel b1 b2 b3 ic mc sc:Nat}{ia ma sa:Option Addr}{ins:List (List Int)}{tape:List Int}{mem':List Int}{L:List Al.Leak}{t code:Int}(hF:Al.Fine p)(hio:Al.InOk p ins tape)(ht:∀ x∈tape,0<=x/\x<4294967296)(hc:0<=code/\code<=2)(hCI:CI=Al.insts (codeP p))(hsl:sp.length=CI.length)(hM:M=(envP p).mem)(hf:fuel<=2147483648)
  (hr:Al.rrun CI sp M fuel 0 (List.replicate 25 0) (Al.memF p M ins tape) [] 0=⟨code,mem',L,t, -1⟩) (h1:w.ownsRow b1 97 6 (.slice ia CI.length ic) CI.length (instsV CI)) (h2:w.ownsRow b2 56 1 (.slice ma M mc) M (wordsV (Al.memF p M ins tape))) (h3:w.ownsRow b3 108 2 (.slice sa CI.length sc) CI.length (spansV sp)):
  Calls Tryz.prog 12 #[.agg #[.slice ia CI.length ic,.int .i64 24,.int .i64 M],.slice sa CI.length sc,.slice ma M mc,.int .i64 fuel] w fun e w'=>∃ xa xc la lc,e= .returned (.agg #[.int .i64 code,.slice xa M xc,.slice la L.length lc,.int .i64 t,.int .i64 (-1)])/\w'.ownsRow w.heap.size 56 1 (.slice xa M xc) M (wordsV mem')/\Below w.heap.size w w':=by
 have hE:=Al.env_ok hF
 obtain⟨k1,k2⟩:=Al.codes_ok hF (len:=lenP p) rfl
 have hl:lenP p<=6004:=by
  have h1:=Al.genL_le (envP p) 0 0 p.body 0 (Al.bodyP p.body)
  have h2:=hF.flat
  have h3:Al.bodyP p.body<=4:=by unfold Al.bodyP;split<;> omega
  unfold lenP;omega
 have hcl:CI.length=(codeP p).length:=by rw [hCI,Al.insts_length]
 have HC:RunC w ⟨0,0,0,0,0,M,0,ia,ic,CI⟩ ⟨code,mem',L,t, -1⟩ fuel b1:=by
  refine⟨h1,fun i hi=>?_,?_,?_,?_,hf,rfl,hc⟩
  ·show Al.okI CI.length i
   rw [hcl];exact k1 i (show i∈Al.insts (codeP p) by rw [<-hCI];exact hi)
  ·show CI.length<=_
   rw [hcl]
   have:(codeP p).length<=lenP p+3:=k2
   omega
  ·show 0<M
   rw [hM];show 0<(Al.envOf p (Al.bitsOf p.q)).mem;unfold Al.Env.mem Al.Env.scratch;omega
  ·show M<=65536
   rw [hM];exact hE.mem_le
 rw [<-hsl] at h3
 have H:=run_spans (C0:=⟨0,0,0,0,0,M,0,ia,ic,CI⟩) h3 hsl HC h2 (Al.memF_words hF hio ht) hr
 rw [hsl] at H
 refine H.mono ?_
 rintro e w' ⟨vm,vl,rfl,ho,hl2,hb⟩
 obtain⟨xa,xc,rfl⟩:=own_slice ho
 obtain⟨la,lc,rfl⟩:=own_slice hl2
 exact⟨xa,xc,la,lc,rfl,ho,hb⟩
structure PM (w0:World)(kp kc kA b1 b2 b3:Nat)(kz:Option Nat)(p:Al.Prog)(Va Ab:Option Addr)(vc cb:Nat)(ia:Option Addr)(ic:Nat)(CI:List Al.Inst)(M:Nat)(va:Array Value)(st:Int)(ma:Option Addr)(mc:Nat)(ml:List Int)(sa:Option Addr)(sc:Nat)(sp:List Al.Span)(w:World):Prop where
 S:PS w0 kp kc b1 kz p Va Ab vc cb ia ic CI M w
 R:w.heap[kA]?=some (.cells va 34 (0,0))
 e:va[3]?=some (.int .i64 st)
 m:w.ownsRow b2 56 1 (.slice ma M mc) M (wordsV ml)
 s:w.ownsRow b3 108 2 (.slice sa CI.length sc) CI.length (spansV sp)
section
variable {w0 w w':World} {kp kc kA b1 b2 b3:Nat} {kz:Option Nat} {p:Al.Prog} {Va Ab:Option Addr} {vc cb:Nat} {ia:Option Addr} {ic:Nat} {CI:List Al.Inst} {M:Nat} {va:Array Value} {st:Int} {ma:Option Addr} {mc:Nat} {ml:List Int} {sa:Option Addr} {sc:Nat} {sp:List Al.Span}
theorem PM.drew (h:PM w0 kp kc kA b1 b2 b3 kz p Va Ab vc cb ia ic CI M va st ma mc ml sa sc sp w):PM w0 kp kc kA b1 b2 b3 kz p Va Ab vc cb ia ic CI M va st ma mc ml sa sc sp w.drew:=⟨h.S.drew,h.R,h.e,own_of h.m fun _ _=>rfl,own_of h.s fun _ _=>rfl⟩
theorem PM.below (h:PM w0 kp kc kA b1 b2 b3 kz p Va Ab vc cb ia ic CI M va st ma mc ml sa sc sp w)(g:Below w.heap.size w w'):PM w0 kp kc kA b1 b2 b3 kz p Va Ab vc cb ia ic CI M va st ma mc ml sa sc sp w':=
 ⟨h.S.below g,below_blk g h.R (blk_lt h.R),h.e,own_of h.m fun k hk=>g.block k (h.m.lt k hk).2,own_of h.s fun k hk=>g.block k (h.s.lt k hk).2⟩
theorem PM.alloc (h:PM w0 kp kc kA b1 b2 b3 none p Va Ab vc cb ia ic CI M va st ma mc ml sa sc sp w):PM w0 kp kc kA b1 b2 b3 (some w.heap.size) p Va Ab vc cb ia ic CI M va st ma mc ml sa sc sp (w.alloc (.cells #[.int .i64 0,.slice none 0 0,.slice none 0 0,.int .i64 0,.int .i64 0] 51)):=
 ⟨h.S.alloc,alloc_blk _ h.R,h.e,h.m.alloc _,h.s.alloc _⟩
theorem PM.newP (h:PM w0 kp kc kA b1 b2 b3 none p Va Ab vc cb ia ic CI M va st ma mc ml sa sc sp w)(o:Obj):PM w0 kp kc kA b1 b2 b3 none p Va Ab vc cb ia ic CI M va st ma mc ml sa sc sp (w.alloc o):=
 ⟨h.S.newP o,alloc_blk _ h.R,h.e,h.m.alloc _,h.s.alloc _⟩
theorem PM.set5 {k:Nat}(h:PM w0 kp kc kA b1 b2 b3 (some k) p Va Ab vc cb ia ic CI M va st ma mc ml sa sc sp w)(x0 x1 x2 x3 x4:Value):PM w0 kp kc kA b1 b2 b3 none p Va Ab vc cb ia ic CI M va st ma mc ml sa sc sp (((((w.setCell ⟨k,0,none⟩ x0).setCell ⟨k,1,none⟩ x1).setCell ⟨k,2,none⟩ x2).setCell ⟨k,3,none⟩ x3).setCell ⟨k,4,none⟩ x4):=by
 have hz:=(h.S.z k rfl).2
 have n1:kA≠k:=ne_types h.R hz (by decide)
 refine⟨h.S.set5 _ _ _ _ _,?_,h.e,own_set5 h.m hz (by decide),own_set5 h.s hz (by decide)⟩
 rw [set_blk_ne _ _ n1,set_blk_ne _ _ n1,set_blk_ne _ _ n1,set_blk_ne _ _ n1,set_blk_ne _ _ n1];exact h.R
abbrev CellsM (kp kc kA:Nat)(p:Al.Prog)(Va Ab:Option Addr)(vc cb:Nat)(ia:Option Addr)(ic:Nat)(CI:List Al.Inst)(M:Nat)(st:Int)(w:World):Prop:=
 w.cell? ⟨kp,0,none⟩=some (.int .i64 p.q)/\w.cell? ⟨kp,1,none⟩=some (.int .i64 p.n)/\w.cell? ⟨kp,2,none⟩=some (.slice Va p.vars.length vc)/\w.cell? ⟨kp,3,none⟩=some (.slice Ab p.body.length cb)/\w.cell? ⟨kc,0,none⟩=some (.slice ia CI.length ic)/\w.cell? ⟨kc,1,none⟩=some (.int .i64 24)/\w.cell? ⟨kc,2,none⟩=some (.int .i64 M)/\w.cell? ⟨kA,3,none⟩=some (.int .i64 st)
theorem PM.cells (h:PM w0 kp kc kA b1 b2 b3 kz p Va Ab vc cb ia ic CI M va st ma mc ml sa sc sp w):CellsM kp kc kA p Va Ab vc cb ia ic CI M st w:=
 ⟨h.S.cells.1,h.S.cells.2.1,h.S.cells.2.2.1,h.S.cells.2.2.2.1,h.S.cells.2.2.2.2.1,h.S.cells.2.2.2.2.2.1,h.S.cells.2.2.2.2.2.2,(cell_blk h.R _).trans h.e⟩
theorem PM.new (h:PM w0 kp kc kA b1 b2 b3 kz p Va Ab vc cb ia ic CI M va st ma mc ml sa sc sp w)(o:Obj):CellsM kp kc kA p Va Ab vc cb ia ic CI M st (w.alloc o):=
 have g:=h.S.new o
 ⟨g.1,g.2.1,g.2.2.1,g.2.2.2.1,g.2.2.2.2.1,g.2.2.2.2.2.1,g.2.2.2.2.2.2,(cell_blk (alloc_blk o h.R) _).trans h.e⟩
end
theorem means_any {w:World}{p:Al.Prog}{Va Ab Ia Sa:Option Addr}{vc cb ic sc:Nat}{insA:List (List Int)}{sA:List Int}(hp:PLies w p Va Ab vc cb)(hA:Kd.C (Kd.slice 3 (Kd.int .i64)) w Ia insA.length insA)
  (hS:(Kd.int .u32).C w Sa sA.length sA) (hs:∀ t∈sA,0<=t/\t<4294967296):
  Calls Tryz.prog 3 #[progV p Va Ab vc cb,.slice Ia insA.length ic,.slice Sa sA.length sc] w fun e w'=>e= .returned (.bool true)/\Below w.heap.size w w':=by
 obtain⟨W,hW⟩:∃ W,W=w.alloc (.cells #[.int .i64 p.q,.int .i64 p.n,.slice Va p.vars.length vc,.slice Ab p.body.length cb] 27):=⟨_,rfl⟩
 have hb0:Below w.heap.size w W:=by rw [hW];exact (Below.refl _ _).alloc (Nat.le_refl _) _
 obtain⟨kp,hkp⟩:∃ kp,kp=w.heap.size:=⟨_,rfl⟩
 have P0:PBox W kp p Va Ab vc cb:=by rw [hW,hkp];exact heap_alloc_new w _
 have HLA:=fun (w0:World) (hb:Below w.heap.size w w0)=>light_any (hp.below hb) Ia Sa insA.length ic sA.length sc
 have HF1:=first_any W
 unfold progV at HLA
 obtain⟨lA,hlA⟩:∃ lA,lA=(lightF p && (decide (insA.length<=14) && decide (sA.length<=200))):=⟨_,rfl⟩
 simp only [<-hlA] at HLA
 replace hlA:=Lib.hid hlA
 have HP:=Lib.hid hp
 have HAA:=Lib.hid hA
 have HSS:=Lib.hid (show _/\_ from⟨hS,hs⟩)
 clear hp hA hS hs
 go_enter Tryz.func3,Tryz.ntmps3
 unfold progV
 go_wp2_with fail
 rw [<-hW]
 simp only [<-hkp]
 replace hkp:=Lib.hid hkp
 clear hW
 go_upto_region 4 with (go_at_call 7;refine HF1.mono ?_;rintro e w1 ⟨rfl,hb1⟩;have P1:PBox w1 kp p Va Ab vc cb:=below_blk hb1 P0 (blk_lt P0);have hb2:=hb0.trans (lower_below hb1 hb0.size))
 clear HF1 P0 hb0 hb1
 obtain⟨p0,p1,p2,p3⟩:=P1.cells
 cases lA with
 |false=>
  go_wp2_with (first|(go_at_call 8;refine (HLA _ hb2).mono ?_;rintro e w2 ⟨rfl,hb3⟩;have hb4:=hb2.trans (lower_below hb3 hb2.size)))
  exact bodyPost_ret (v:= .bool true) (by simp [results,Tryz.results3,go_sem]) rfl ⟨rfl,hb4⟩
 |true=>
 obtain⟨hn16,hv20,hfl,hwk,hiA,hsA⟩:=light_parts2 (Eq.symm (show true=_ from hlA))
 clear hlA
 obtain⟨fA,hfA⟩:∃ fA,fA=runF p insA sA 3000:=⟨_,rfl⟩
 obtain⟨Y,hY⟩:∃ Y,Y=Al.exF p insA sA 3000:=⟨_,rfl⟩
 obtain⟨K,hK⟩:∃ K,K=Al.kindsOf p.vars 2:=⟨_,rfl⟩
 have HRA:∀ w0,Below w.heap.size w w0->Calls Tryz.prog 9 #[.agg #[.int .i64 p.q,.int .i64 p.n,.slice Va p.vars.length vc,.slice Ab p.body.length cb],.slice Ia insA.length ic,.slice Sa sA.length sc,.int .i64 3000] w0 (fun e w'=>∃ (c st us:Int) (lo co le ce:Nat) (ao ae:Option Addr),e= .returned (.tuple #[.agg #[.int .i64 c,.slice ao lo co,.slice ae le ce,.int .i64 st,.int .i64 us],.agg #[.int .i64 fA.code,.bool fA.placed,.int .i64 fA.pos]])/\Below w0.heap.size w0 w'/\
   Hid (fA.code=0->(Al.checkF p).code=0/\(Al.inputsF p.q p.n p.vars insA sA (3000:Nat)).code=0/\c=Y.code/\st=Y.steps/\us=Y.used/\(Y.over=false->lo=K.length/\∃ os,w'.ownsRow w0.heap.size 86 1 (.slice ao lo co) lo os/\∀ i (h:i<K.length),∃ v,os[i]?=some v/\w'.ownsRow w0.heap.size 3 1 v p.n.toNat (vecV p.n.toNat (Y.V K[i].toNat))))):=fun w0 hb=>by
  rw [hfA,hY,hK]
  refine (run_any (F:=3000) (ic:=ic) (tc:=sc) ((show PLies w p Va Ab vc cb from HP).below hb) (by omega) (by omega) (by omega) (Kd.C_below (show Kd.C (Kd.slice 3 (Kd.int .i64)) w Ia insA.length insA from HAA) hb) (Kd.C_below HSS.out.1 hb) HSS.out.2 (by omega)).mono ?_
  intro e w' h
  obtain⟨c,st,us,lo,co,le,ce,ao,ae,h1,h2,h3⟩:=h.o
  exact⟨c,st,us,lo,co,le,ce,ao,ae,h1,h2,Lib.hid h3⟩
 replace hfA:=Lib.hid hfA
 replace hY:=Lib.hid hY
 replace hK:=Lib.hid hK
 go_upto_region 7 with (first|(go_at_call 8;refine (HLA _ hb2).mono ?_;rintro e w2 ⟨rfl,hb3⟩;have hb4:=hb2.trans (lower_below hb3 hb2.size);have P2:PBox w2 kp p Va Ab vc cb:=below_blk hb3 P1 (blk_lt P1);obtain⟨q0,q1,q2,q3⟩:=P2.cells;clear HLA)|(go_at_call 9;refine (HRA _ hb4).mono ?_;rintro e w4 ⟨cA,stA,usA,loA,coA,leA,ceA,aoA,aeA,rfl,hb7,HXA⟩;have hb8:=hb4.trans (lower_below hb7 hb4.size);have P4:PBox w4 kp p Va Ab vc cb:=below_blk hb7 P2 (blk_lt P2)))
 obtain⟨kA,hkA⟩:∃ kA,kA=w4.heap.size:=⟨_,rfl⟩
 refine gen_world (Q:=fun W=>Code.wp _ _ _ _ W) _ (fun W=>PBox W kp p Va Ab vc cb/\W.heap[w4.heap.size]?=some (.cells #[.int .i64 cA,.slice aoA loA coA,.slice aeA leA ceA,.int .i64 stA,.int .i64 usA] 34 (0,0))/\W.heap[w4.heap.size+1]?=some (.cells #[.int .i64 fA.code,.bool fA.placed,.int .i64 fA.pos] 36 (0,0))/\Below w.heap.size w W/\Below w4.heap.size w4 W) ⟨alloc_blk _ (alloc_blk _ P4),alloc_blk _ (heap_alloc_new w4 _),alloc_at _ _ _,(hb8.alloc hb8.size _).alloc (by have:=hb8.size;simp;omega) _,alloc_two _ _ _⟩ ?_
 simp only [<-hkA]
 replace hkA:=Lib.hid hkA
 clear P1 P2 P4 p0 p1 p2 p3 q0 q1 q2 q3 hb2 hb3 hb4 hb7 HRA
 rintro W5 ⟨P5,RA,FA,hb9,hb10⟩
 have a0:W5.cell? ⟨kA+1,0,none⟩=some (.int .i64 fA.code):=(cell_blk FA _).trans rfl
 have a1:W5.cell? ⟨kA,0,none⟩=some (.int .i64 cA):=(cell_blk RA _).trans rfl
 by_cases g1:fA.code≠0
 ·have e1:(fA.code !=0)=true:=by simp [g1]
  clear g1
  go_wp2_with fail
  exact bodyPost_ret (v:= .bool true) (by simp [results,Tryz.results3,go_sem]) rfl ⟨rfl,hb9⟩
 replace g1:fA.code=0:=by omega
 have zA:((0:Int) !=0)=false:=by decide
 rw [g1] at a0
 by_cases g3:cA=4
 ·have e1:(cA == 4)=true:=by simp [g3]
  clear g1 g3
  go_wp2_with fail
  exact bodyPost_ret (v:= .bool true) (by simp [results,Tryz.results3,go_sem]) rfl ⟨rfl,hb9⟩
 have e3:(cA == 4)=false:=by simp [g3]
 obtain⟨hc0,hinA,hcA,hstA,husA,hout⟩:=HXA.out g1
 have hFi:Al.Fine p:=Al.fine_of_check hc0
 have hIA:Al.InOk p insA sA:=Al.inOk_of hinA
 have yA:=show Y=_ from hY.out
 obtain⟨fuel,mem',L,tA,hfe,hfu,⟨hst,hus⟩,hcr,hrr,hml,hm1,hend⟩:=Al.means_run hFi hn16 (len:=lenP p) rfl (c:=codeP p) rfl hIA HSS.out.2 (y:=Y) yA (by rw [<-hcA];exact g3)
 obtain⟨CI,hCI⟩:∃ CI,CI=Al.insts (codeP p):=⟨_,rfl⟩
 obtain⟨sp,hsp⟩:∃ sp,sp=Al.spansOf (codeP p):=⟨_,rfl⟩
 obtain⟨M,hM⟩:∃ M,M=(envP p).mem:=⟨_,rfl⟩
 have HL:=fun w0 hb=>lower_fine hFi ((show PLies w p Va Ab vc cb from HP).below (w':=w0) hb)
 rw [<-hM,<-hCI,<-hsp,<-Al.insts_length (codeP p),<-hCI] at HL
 unfold progV at HL
 rw [<-hCI,<-hsp] at hrr
 have hsl:sp.length=CI.length:=by rw [hsp,hCI];simp [Al.spansOf,Al.insts]
 have HS:=fun w0=>steps_any w0 p.q p.n (Y.steps:Int) ⟨by have:=hFi.n.1;omega,hn16⟩ ⟨by omega,by omega⟩
 simp only [hfe] at HS
 have hrM:Hid (Al.rrun CI sp M fuel 0 (List.replicate 25 0) (Al.memF p M insA sA) [] 0=⟨cA,mem',L,tA, -1⟩):=by rw [hM,hcA];exact Lib.hid hrr
 replace hml:mem'.length=M:=by rw [hM];exact hml
 have hl0:CI.length≠0:=fun e=>by
  have h:=Al.srrun_inside (show Al.rrun CI sp M fuel ((0:Nat):Int) _ _ _ 0=_ from hrM.out) (by rw [<-hcA] at hcr;exact hcr.2)
  omega
 have hM1:1<M:=by rw [hM];show 1<(Al.envOf p (Al.bitsOf p.q)).mem;unfold Al.Env.mem Al.Env.scratch;omega
 have hwu:IntKind.u64.wrap usA=usA:=IntWalk.u64_in _ (by rw [husA];omega)
 rw [<-husA] at hm1
 rw [<-hcA] at hcr hend
 rw [<-hstA] at HS
 have HCR:=Lib.hid hcr
 have HEND:=Lib.hid hend
 have HOUT:=Lib.hid hout
 replace hCI:=Lib.hid hCI
 replace hsp:=Lib.hid hsp
 replace hM:=Lib.hid hM
 have ka:=show kA=w4.heap.size from hkA.out
 clear hfe yA hc0 hinA hcA hstA husA hout hrr hst hus hcr hend g1 g3 HXA
 replace hb10:Below w4.heap.size w4 W5:=by rw [<-ka];exact hb10
 clear ka
 obtain⟨p0,p1,p2,p3⟩:=P5.cells
 have zl:((CI.length:Int) !=(CI.length:Int))=false:=by simp
 have z0:((CI.length:Int) == 0)=false:=beq_false_of_ne (by omega)
 go_upto_region 10 with (first|(go_at_call 10;refine (HL _ hb9).mono ?_;rintro e w9 ⟨vi,vs,rfl,h1,h2,hb18⟩;obtain⟨ia,ic2,rfl⟩:=own_slice h1;obtain⟨sa,sc2,rfl⟩:=own_slice h2;have P9:PBox w9 kp p Va Ab vc cb:=below_blk hb18 P5 (blk_lt P5);have hb19:=hb9.trans (lower_below hb18 hb9.size);have RA9:=below_blk hb18 RA (blk_lt RA);have hb1a:=hb10.trans (lower_below hb18 hb10.size)))
 clear HL P5 p0 p1 p2 p3 a0 a1 RA FA e3 zA
 refine gen_world (Q:=fun W=>Code.wp _ _ _ _ W) _ (fun W=>PBox W kp p Va Ab vc cb/\W.heap[w9.heap.size]?=some (.cells #[.slice ia CI.length ic2,.int .i64 24,.int .i64 M] 41 (0,0))/\W.ownsRow W5.heap.size 97 6 (.slice ia CI.length ic2) CI.length (instsV CI)/\W.ownsRow W5.heap.size 108 2 (.slice sa CI.length sc2) CI.length (spansV sp)/\Below w.heap.size w W/\
  W.heap[kA]?=some (.cells #[.int .i64 cA,.slice aoA loA coA,.slice aeA leA ceA,.int .i64 stA,.int .i64 usA] 34 (0,0))/\Below w4.heap.size w4 W)
  ⟨alloc_blk _ P9,heap_alloc_new w9 _,h1.alloc _,h2.alloc _,hb19.alloc (Nat.le_trans hb9.size hb18.size) _,alloc_blk _ RA9,hb1a.alloc hb1a.size _⟩ ?_
 clear P9 h1 h2 hb9 hb10 hb18 hb19 RA9 hb1a
 rintro W10 ⟨P10,C10,O10,N10,hb20,RA,B4⟩
 obtain⟨kc,hkc⟩:∃ kc,kc=w9.heap.size:=⟨_,rfl⟩
 obtain⟨b1,hb1⟩:∃ b1,b1=W5.heap.size:=⟨_,rfl⟩
 obtain⟨va,hva⟩:∃ va:Array Value,va= #[.int .i64 cA,.slice aoA loA coA,.slice aeA leA ceA,.int .i64 stA,.int .i64 usA]:=⟨_,rfl⟩
 rw [<-hva] at RA
 have ha3:va[3]?=some (.int .i64 stA):=by rw [hva];rfl
 have ha0:va[0]?=some (.int .i64 cA):=by rw [hva];rfl
 have ha1:va[1]?=some (.slice aoA loA coA):=by rw [hva];rfl
 have ha4:va[4]?=some (.int .i64 usA):=by rw [hva];rfl
 rw [<-hkc] at C10
 rw [<-hb1] at O10 N10
 simp only [<-hkc]
 replace hkc:=Lib.hid hkc
 have A0:=Lib.hid ha0
 have A1:=Lib.hid ha1
 have A4:=Lib.hid ha4
 have A3:=Lib.hid ha3
 clear hb1 hva ha0 ha1 ha3 ha4
 obtain⟨p0,p1,p2,p3⟩:=P10.cells
 have c0:W10.cell? ⟨kc,0,none⟩=some (.slice ia CI.length ic2):=(cell_blk C10 _).trans rfl
 have c2:W10.cell? ⟨kc,2,none⟩=some (.int .i64 M):=(cell_blk C10 _).trans rfl
 have HMA:=fun (w0:World) (hb:Below w.heap.size w w0)=>mem_hides (ic:=ic) (tc:=sc) (Ta:=Sa) (tape:=sA) ((show PLies w p Va Ab vc cb from HP).below hb) hFi hIA (Kd.C_below (show Kd.C (Kd.slice 3 (Kd.int .i64)) w Ia insA.length insA from HAA) hb) (Kd.C_below HSS.out.1 hb) HSS.out.2 (show M=_ from hM)
 go_upto_region 13 with (first|(go_at_call 11;refine (HMA _ hb20).mono ?_;rintro e w12 ⟨ma,mc,rfl,hm,g2⟩;have P12:PBox w12 kp p Va Ab vc cb:=below_blk g2 P10 (blk_lt P10);have C12:=below_blk g2 C10 (blk_lt C10);have O12:=own_of O10 fun k hk=>g2.block k (O10.lt k hk).2;have N12:=own_of N10 fun k hk=>g2.block k (N10.lt k hk).2;have hb22:=hb20.trans (lower_below g2 hb20.size);have RA1:=below_blk g2 RA (blk_lt RA);have B5:=B4.trans (lower_below g2 B4.size)))
 obtain⟨b2,hb2⟩:∃ b2,b2=W10.heap.size:=⟨_,rfl⟩
 rw [<-hb2] at hm
 clear HMA P10 C10 O10 N10 hb20 RA B4 g2 hb2 p0 p1 p2 p3 c0 c2
 have HRA:=fun (w0:World) (b1 b2 b3:Nat)=>run_means (w:=w0) (b1:=b1) (b2:=b2) (b3:=b3) (mc:=mc) (ma:=ma) (ia:=ia) (ic:=ic2) (sa:=sa) (sc:=sc2) hFi hIA HSS.out.2 HCR.out (show CI=_ from hCI) hsl (show M=_ from hM) hfu (show _=_ from hrM)
 have S10:PM w12 kp kc kA b1 b2 b1 none p Va Ab vc cb ia ic2 CI M va stA ma mc (Al.memF p M insA sA) sa sc2 sp w12:=⟨⟨P12,C12,O12,Below.refl _ _,fun k hk=>by cases hk⟩,RA1,A3.out,hm,N12⟩
 clear P12 C12 O12 N12 RA1 hm
 go_cut [14] from 69 to 78 (fun v14 wc=>∃ (kr xc lc:Nat) (xa la:Option Addr),v14= .pointer (some ⟨kr,0,none⟩)/\PM w12 kp kc kA b1 b2 b1 none p Va Ab vc cb ia ic2 CI M va stA ma mc (Al.memF p M insA sA) sa sc2 sp wc/\wc.heap[kr]?=some (.cells #[.int .i64 cA,.slice xa M xc,.slice la L.length lc,.int .i64 tA,.int .i64 (-1)] 51 (0,0))/\wc.ownsRow w12.heap.size 56 1 (.slice xa M xc) M (wordsV mem'))
 case first=>
  have S1:=S10
  go_region_held3 (fun w'=>w'.cell? ⟨kp,0,none⟩=some (.int .i64 p.q)/\w'.cell? ⟨kp,1,none⟩=some (.int .i64 p.n)/\w'.cell? ⟨kp,2,none⟩=some (.slice Va p.vars.length vc)/\w'.cell? ⟨kp,3,none⟩=some (.slice Ab p.body.length cb)/\w'.cell? ⟨kc,0,none⟩=some (.slice ia CI.length ic2)/\w'.cell? ⟨kc,1,none⟩=some (.int .i64 24)/\w'.cell? ⟨kc,2,none⟩=some (.int .i64 M)/\w'.cell? ⟨kA,3,none⟩=some (.int .i64 stA)) ((first|with_reducible exact S1.cells|with_reducible exact S1.drew.cells|with_reducible exact S1.new _|with_reducible exact S1.alloc.drew.cells|with_reducible exact (S1.set5 _ _ _ _ _).cells)) (first
   |(go_at_call 13;refine (other_any _ _ _ _ _ _).mono ?_;rintro e w15 ⟨rfl,g1⟩;(first|with_reducible replace S1:=S1.drew.below g1|with_reducible replace S1:=S1.alloc.drew.below g1|with_reducible replace S1:=S1.below g1|with_reducible replace S1:=S1.alloc.below g1);(try clear p0 p1 p2 p3 c0 c1 c2 a3);obtain⟨p0,p1,p2,p3,c0,c1,c2,a3⟩:=S1.cells)
   |(go_at_call 14;refine (HS _).mono ?_;rintro e w16 ⟨rfl,g1⟩;(first|with_reducible replace S1:=S1.drew.below g1|with_reducible replace S1:=S1.alloc.drew.below g1|with_reducible replace S1:=S1.below g1|with_reducible replace S1:=S1.alloc.below g1);(try clear p0 p1 p2 p3 c0 c1 c2 a3);obtain⟨p0,p1,p2,p3,c0,c1,c2,a3⟩:=S1.cells)
   |(go_at_call 12;(first|with_reducible refine (HRA _ _ _ _ S1.S.O S1.m S1.s).mono ?_|with_reducible refine (HRA _ _ _ _ S1.alloc.S.O S1.alloc.m S1.alloc.s).mono ?_);rintro e w13 ⟨xa,xc,la,lc,rfl,hl,g3⟩;(first|with_reducible have hl2:=own_base hl S1.S.b.size|with_reducible have hl2:=own_base hl S1.alloc.S.b.size);(first|with_reducible replace S1:=S1.below g3|with_reducible replace S1:=S1.alloc.below g3);clear p0 p1 p2 p3 c0 c1 c2 a3;obtain⟨p0,p1,p2,p3,c0,c1,c2,a3⟩:=S1.cells;try (obtain⟨z0,z1,z2,z3,z4,f0,f1,f2,f3,f4⟩:=S1.S.zero)))
  all_goals go_wp2_with fail
  all_goals go_meet
  ·exact⟨w13.heap.size,xc,lc,xa,la,rfl,S1.newP _,heap_alloc_new w13 _,hl2.alloc _⟩
  all_goals exact⟨_,xc,lc,xa,la,rfl,S1.set5 _ _ _ _ _,set5 (S1.S.z _ rfl).2 _ _ _ _ _,own_set5 hl2 (S1.S.z _ rfl).2 (by decide)⟩
 case rest=>
  obtain⟨kr,xc,lc,xa,la,rfl,SA,QA,OA⟩:=hcut
  have hbz:=hb22.trans (lower_below SA.S.b hb22.size)
  have B6:=B5.trans (lower_below SA.S.b B5.size)
  have RA:=SA.R
  have PP:=SA.S.P
  clear S10 HRA HS SA hb22 B5
  obtain⟨gx,hxa,dx, -⟩:=words_get OA (j:=1) (by omega) hml.symm
  have hx1:mem'[1]'(by omega)=usA:=by rw [<-hm1,List.getD_eq_getElem?_getD,List.getElem?_eq_getElem (by omega)];rfl
  rw [hx1] at dx
  have r0:wc.cell? ⟨kr,0,none⟩=some (.int .i64 cA):=(cell_blk QA _).trans rfl
  have r1:wc.cell? ⟨kr,1,none⟩=some (.slice xa M xc):=(cell_blk QA _).trans rfl
  have r4:wc.cell? ⟨kr,4,none⟩=some (.int .i64 (-1)):=(cell_blk QA _).trans rfl
  have x0:wc.cell? ⟨kA,0,none⟩=some (.int .i64 cA):=(cell_blk RA _).trans A0.out
  have x1:wc.cell? ⟨kA,1,none⟩=some (.slice aoA loA coA):=(cell_blk RA _).trans A1.out
  have x4:wc.cell? ⟨kA,4,none⟩=some (.int .i64 usA):=(cell_blk RA _).trans A4.out
  have zc:(cA !=cA)=false:=by simp
  have zu:(usA !=usA)=false:=by simp
  have zm:((-1:Int) != -1)=false:=by decide
  have m1:(1:Int)<(M:Int):=by omega
  subst hxa
  obtain⟨p0,p1,p2,p3⟩:=PP.cells
  clear hm1 hx1
  by_cases g0:cA=0
  case neg=>
   have e1:(cA !=0)=true:=by simp [g0]
   clear g0
   go_upto_region 14 with fail
   go_quiet (fail)
   go_wp2_with fail
   exact bodyPost_ret (v:= .bool true) (by simp [results,Tryz.results3,go_sem]) rfl ⟨rfl,below_drewN hbz _⟩
  case pos=>
   have e1:(cA !=0)=false:=by simp [g0]
   obtain⟨hov,hVV⟩:=HEND.out g0
   obtain⟨hlo,osA,hoA,hrA⟩:=HOUT.out hov
   have hM':=show M=(envP p).mem from hM.out
   have hK':=show K=Al.kindsOf p.vars 2 from hK.out
   have hM65:M<=65536:=by rw [hM'];exact (Al.env_ok hFi).mem_le
   have hV:∀ v k,v<p.vars.length->k<p.n.toNat->(2+p.n.toNat * v+k<M)/\mem'.getD (2+p.n.toNat * v+k) 0=Y.V v k/\0<=Y.V v k/\Y.V v k<p.q:=by rw [hM'];exact hVV
   have HOU:=fun (w0:World) (hb:Below wc.heap.size wc w0)=>ref_outs (w:=w0) (p:=p) ((show PLies w p Va Ab vc cb from HP).below (hbz.trans (lower_below hb hbz.size))) (by omega) ⟨by have:=hFi.n.1;omega,by omega⟩ (by have:=hFi.q;omega) hM65 (own_of OA fun k hk=>hb.block k (OA.lt k hk).2) hV
   subst hK'
   subst hlo
   have HV:=Lib.hid hV
   have HRO:=Lib.hid (show _/\_ from⟨hoA,hrA⟩)
   have hdr:∀ nq,Below wc.heap.size wc (wc.drewN nq):=fun nq=>below_drewN (Below.refl _ _) nq
   have hkl:(Al.kindsOf p.vars 2).length<=1000:=by have:=kindsFrom_len p.vars 2 0;unfold Al.kindsOf;omega
   clear g0 hov hVV hM' hV hoA hrA
   go_upto_region 14 with fail
   go_quiet (fail)
   go_upto_region 19 with (first|(go_at_call 15;refine (HOU _ (hdr _)).mono ?_;rintro e w20 ⟨vo,rfl,hb23,os,ho1,ho2⟩;have hb24:=(hdr _).trans hb23;obtain⟨ov,oc,rfl⟩:=own_slice ho1;have y1:=cell_since hb24 x1))
   have hb25:=hbz.trans (lower_below hb24 hbz.size)
   have B7:=B6.trans (lower_below hb24 B6.size)
   obtain⟨hoA,hrA⟩:=HRO.out
   have rr:∀ {B:Nat} {v:Value} {i:Nat} (hi:i<(Al.kindsOf p.vars 2).length),w20.ownsRow B 3 1 v p.n.toNat (vecV p.n.toNat (Y.V (Al.kindsOf p.vars 2)[i].toNat))->w20.ownsRow B 3 1 v (vecN p.n.toNat (Y.V ((Al.kindsOf p.vars 2).getD i 0).toNat)).length (intsV (vecN p.n.toNat (Y.V ((Al.kindsOf p.vars 2).getD i 0).toNat))):=fun {B v i} hi h=>by
    rw [List.getD_eq_getElem?_getD,List.getElem?_eq_getElem hi]
    have e:(vecN p.n.toNat (Y.V ((some (Al.kindsOf p.vars 2)[i]:Option Int).getD 0).toNat)).length=p.n.toNat:=by simp [vecN]
    rw [e]
    exact h
   have HSV:=same_vectors (X:=fun i=>vecN p.n.toNat (Y.V ((Al.kindsOf p.vars 2).getD i 0).toNat)) ho1 (own_of hoA fun k hk=>B7.block k (hoA.lt k hk).2) (fun i hi=>by obtain⟨v,h1,h2⟩:=ho2 i hi;exact⟨v,h1,rr hi h2⟩) (fun i hi=>by obtain⟨v,h1,h2⟩:=hrA i hi;exact⟨v,h1,rr hi (own_of h2 fun k hk=>B7.block k (h2.lt k hk).2)⟩) (fun i hi=>by simp [vecN];omega) (by omega)
   clear ho1 ho2 hoA hrA rr HRO HV HOU hb23 hb24 B6 B7 OA QA RA hkl hdr zm zu zc m1 hml dx r0 r1 r4 x0 x1 x4
   go_wp2_with (first|(go_at_call 16;refine HSV.mono ?_;rintro e w21 ⟨rfl,hb26⟩;have hb27:=hb25.trans (lower_below hb26 hb25.size)))
   exact bodyPost_ret (v:= .bool true) (by simp [results,Tryz.results3,go_sem]) rfl ⟨rfl,hb27⟩
end Go.Proofs.YtkplfaionpplaaaGreatDoor
