/- Part 24: B111, B60, B61, B56, B57, B62, B112, B108. -/
import Derived.Test.YtkplfaionpplaaaGreatDoorK23
import Derived.Deep.CutRange
import Derived.Shelf.Bits.Mul64
import Derived.Laws.Bits64b
set_option maxRecDepth 100000
set_option maxHeartbeats 6400000
set_option linter.unusedVariables false
set_option linter.unusedSimpArgs false
namespace Go.Proofs.YtkplfaionpplaaaGreatDoor
open Go.RowKit Go.Proofs.YtkplfaionpplaaaGreatDoorW.PrintWords Go.Proofs.YtkplfaionpplaaaGreatDoorW.PrintLast
def flI (op:Int):Nat->Bool
 |0=>hD op|1=>hA op|2=>hB op|3=>hC op|_=>hK op
def plI (d a b c k:Int):Nat->Int
 |0=>d|1=>a|2=>b|3=>c|_=>k
structure OneS (w0 w:World)(kc ki k1 k2:Nat)(cv:Value)(M op d a b c k:Int):Prop where
 bc:w.heap[kc]?=some (.cells #[cv,.int .i64 24,.int .i64 M] 41 (0,0))
 bi:w.heap[ki]?=some (.cells #[.int .i64 op,.int .i64 d,.int .i64 a,.int .i64 b,.int .i64 c,.int .i64 k] 97 (0,0))
 h1:w.heap[k1]?=some (.cells #[.bool (hD op),.bool (hA op),.bool (hB op),.bool (hC op),.bool (hK op)] 4 (0,0))
 h2:w.heap[k2]?=some (.cells #[.int .i64 d,.int .i64 a,.int .i64 b,.int .i64 c,.int .i64 k] 2 (0,0))
 below:Below w0.heap.size w0 w
section
variable {w0 w:World} {kc ki k1 k2:Nat} {cv:Value} {M op d a b c k:Int}
theorem OneS.drewN (h:OneS w0 w kc ki k1 k2 cv M op d a b c k)(n:Nat):OneS w0 (w.drewN n) kc ki k1 k2 cv M op d a b c k:=
 ⟨h.bc,h.bi,h.h1,h.h2,Go.Proofs.YtkplfaionpplaaaGreatDoorW.PrintWords.pw_below_drewN h.below n⟩
theorem OneS.fl (h:OneS w0 w kc ki k1 k2 cv M op d a b c k){j:Nat}(hj:j<5):w.cell? ⟨k1,j,none⟩=some (.bool (flI op j)):=by
 rw [cell_blk h.h1]
 match j,hj with
 |0,_=>rfl
 |1,_=>rfl
 |2,_=>rfl
 |3,_=>rfl
 |4,_=>rfl
theorem OneS.pl (h:OneS w0 w kc ki k1 k2 cv M op d a b c k){j:Nat}(hj:j<5):w.cell? ⟨k2,j,none⟩=some (.int .i64 (plI d a b c k j)):=by
 rw [cell_blk h.h2]
 match j,hj with
 |0,_=>rfl
 |1,_=>rfl
 |2,_=>rfl
 |3,_=>rfl
 |4,_=>rfl
end
theorem reg_of {p:Prop}{x:Int}(h:Al.regI p x):(p->0<=x/\x<24)/\(¬p->x=0):=h
theorem okI_parts {nl:Nat}{op d a b c k:Int}(h:Al.okI nl ⟨op,d,a,b,c,k⟩):(∀ j,j<4->flI op j=true->0<=plI d a b c k j/\plI d a b c k j<24)/\(∀ j,j<5->flI op j=false->plI d a b c k j=0):=by
 obtain⟨_,hd,ha,hb,hc,hk,_⟩:=h
 have hd:=reg_of hd
 have ha:=reg_of ha
 have hb:=reg_of hb
 have hc:=reg_of hc
 dsimp only at hd ha hb hc hk
 refine⟨fun j hj hf=>?_,fun j hj hf=>?_⟩
 ·match j,hj with
  |0,_=>exact hd.1 (of_decide_eq_true (show hD op=true from hf))
  |1,_=>exact ha.1 (of_decide_eq_true (show hA op=true from hf))
  |2,_=>exact hb.1 (of_decide_eq_true (show hB op=true from hf))
  |3,_=>exact hc.1 (of_decide_eq_true (show hC op=true from hf))
 ·match j,hj with
  |0,_=>exact hd.2 (of_decide_eq_false (show hD op=false from hf))
  |1,_=>exact ha.2 (of_decide_eq_false (show hA op=false from hf))
  |2,_=>exact hb.2 (of_decide_eq_false (show hB op=false from hf))
  |3,_=>exact hc.2 (of_decide_eq_false (show hC op=false from hf))
  |4,_=>exact hk (of_decide_eq_false (show hK op=false from hf))
theorem words_one (w:World){nl:Nat}{Ca:Option Addr}{cc:Nat}{M:Int}{op d a b c k:Int}(h:Al.okI nl ⟨op,d,a,b,c,k⟩)(hnl:nl<=1000000):
  Calls Tryz.prog 60 #[.agg #[.slice Ca nl cc,.int .i64 24,.int .i64 M],.agg #[.int .i64 op,.int .i64 d,.int .i64 a,.int .i64 b,.int .i64 c,.int .i64 k]] w fun e w'=>e= .returned Value.nilIface/\Below w.heap.size w w':=by
 obtain⟨hreg,hzero⟩:=okI_parts h
 obtain⟨hop,_,_,_,_,_,hk1,hk2,hk3,hk4⟩:=h
 dsimp only at hop hk1 hk2 hk3 hk4
 obtain⟨W,hW⟩:∃ W,W=(w.alloc (.cells #[.slice Ca nl cc,.int .i64 24,.int .i64 M] 41)).alloc (.cells #[.int .i64 op,.int .i64 d,.int .i64 a,.int .i64 b,.int .i64 c,.int .i64 k] 97):=⟨_,rfl⟩
 obtain⟨kc,hkc⟩:∃ kc,kc=w.heap.size:=⟨_,rfl⟩
 obtain⟨ki,hki⟩:∃ ki,ki=kc+1:=⟨_,rfl⟩
 have hb0:Below w.heap.size w W:=by rw [hW];exact alloc_two _ _ _
 have bc:W.heap[kc]?=some (.cells #[.slice Ca nl cc,.int .i64 24,.int .i64 M] 41 (0,0)):=by rw [hW,hkc];exact alloc_blk _ (heap_alloc_new w _)
 have bi:W.heap[ki]?=some (.cells #[.int .i64 op,.int .i64 d,.int .i64 a,.int .i64 b,.int .i64 c,.int .i64 k] 97 (0,0)):=by rw [hW,hki,hkc];exact alloc_at _ _ _
 have HO:=words_of W hop
 unfold wformV at HO
 have HH:=fun w0 word=>words_has w0 ⟨op,d,a,b,c,k⟩ word (fun j=>match j with|0=>hD op|1=>hA op|2=>hB op|3=>hC op|4=>hK op)
 dsimp only at HH
 go_enter Tryz.func60,Tryz.ntmps60
 go_wp2_with fail
 rw [<-hW]
 simp only [<-hkc,<-hki]
 replace hkc:=Lib.hid hkc
 replace hki:=Lib.hid hki
 clear hW
 have i0:W.cell? ⟨ki,0,none⟩=some (.int .i64 op):=(cell_blk bi _).trans rfl
 go_wp2_with (first
  |(go_at_call 91;refine HO.mono ?_;rintro e w1 ⟨word,rfl,hb1⟩;have hb2:=hb0.trans (lower_below hb1 hb0.size);have bc1:=below_blk hb1 bc (blk_lt bc);have bi1:=below_blk hb1 bi (blk_lt bi);have v0:=fun o=>(cell_blk (alloc_blk o bi1) 0).trans rfl;have v1:=fun o=>(cell_blk (alloc_blk o bi1) 1).trans rfl;have v2:=fun o=>(cell_blk (alloc_blk o bi1) 2).trans rfl;have v3:=fun o=>(cell_blk (alloc_blk o bi1) 3).trans rfl;have v4:=fun o=>(cell_blk (alloc_blk o bi1) 4).trans rfl;have v5:=fun o=>(cell_blk (alloc_blk o bi1) 5).trans rfl)
  |(go_at_call 92;refine (HH _ _).mono ?_;rintro e w2 ⟨k1,k2,rfl,h1,h2,hb3⟩))
 obtain⟨kf,hkf⟩:∃ kf,kf=w1.heap.size:=⟨_,rfl⟩
 have hb4:Below w.heap.size w w2:=(hb2.alloc hb2.size _).trans (lower_below hb3 (by have:=hb2.size;simp;omega))
 have O2:OneS w w2 kc ki k1 k2 (.slice Ca nl cc) M op d a b c k:=⟨below_blk hb3 (alloc_blk _ bc1) (by have:=blk_lt bc1;simp;omega),below_blk hb3 (alloc_blk _ bi1) (by have:=blk_lt bi1;simp;omega),h1,h2,hb4⟩
 have HOne:=Lib.hid O2
 simp only [<-hkf]
 replace hkf:=Lib.hid hkf
 clear O2 hb4 hb3 h1 h2 bc1 bi1 v0 v1 v2 v3 v4 v5 hb2 hb1 hb0 bc bi i0 HO HH
 go_loopg [9,28] 5 (fun gk v9 v28 w'=>∃ j:Nat,v28= .int .i64 j/\j+gk=5/\j<=4/\Hid (OneS w w' kc ki k1 k2 (.slice Ca nl cc) M op d a b c k))
 case atStart=>exact⟨0,rfl,by omega,by omega,HOne⟩
 case round=>
  obtain⟨j,rfl,hg,hj4,HR⟩:=hrel
  have O:=show OneS w wr kc ki k1 k2 (.slice Ca nl cc) M op d a b c k from HR
  clear HOne HR
  by_cases hj:j<4
  ·obtain⟨g1,rfl⟩:∃ g1,gk=g1+1:=⟨gk - 1,by omega⟩
   have c1:=O.fl (j:=j) (by omega)
   have c2:=O.pl (j:=j) (by omega)
   have c3:wr.cell? ⟨kc,1,none⟩=some (.int .i64 24):=(cell_blk O.bc _).trans rfl
   have hr:=hreg j hj
   obtain⟨x,hx⟩:∃ x,x=plI d a b c k j:=⟨_,rfl⟩
   rw [<-hx] at c2 hr
   have HN:∀ m,Hid (OneS w (wr.drewN m) kc ki k1 k2 (.slice Ca nl cc) M op d a b c k):=fun m=>Lib.hid (O.drewN m)
   have HN0:=Lib.hid O
   replace hx:=Lib.hid hx
   have r0:(0:Int)<=(j:Int):=by omega
   have r1:(j:Int)<5:=by omega
   have r1':(j:Int)<((5:Nat):Int):=by omega
   have r2:decide ((j:Int)<4)=true:=decide_eq_true (by omega)
   cases hf:flI op j with
   |false=>
    rw [hf] at c1
    clear hr O hf
    go_wp2_with fail
    go_big_quiet (fail)
    go_wp2_with fail
    go_roundg g1
    case measure=>omega
    case rel=>exact⟨j+1,by simp,by omega,by omega,HN _⟩
   |true=>
    rw [hf] at c1
    have hr2:=hr hf
    have z0:decide (x<0)=false:=decide_eq_false (by omega)
    have z1:decide ((24:Int)<=x)=false:=decide_eq_false (by omega)
    clear hr O hf
    go_wp2_with fail
    go_big_quiet (fail)
    go_wp2_with fail
    go_roundg g1
    case measure=>omega
    case rel=>exact⟨j+1,by simp,by omega,by omega,HN _⟩
  ·have r2:decide ((j:Int)<4)=false:=decide_eq_false (by omega)
   have HOne:=Lib.hid O
   clear O hreg
   go_wp2_with fail
   go_loopg [10,11,55] 6 (fun gk v10 v11 v55 w'=>∃ j:Nat,v55= .int .i64 j/\j+gk=6/\j<=5/\Hid (OneS w w' kc ki k1 k2 (.slice Ca nl cc) M op d a b c k))
   case atStart=>exact⟨0,rfl,by omega,by omega,HOne⟩
   case round=>
    obtain⟨j,rfl,hg,hj4,HR⟩:=hrel
    have O:=show OneS w wr kc ki k1 k2 (.slice Ca nl cc) M op d a b c k from HR
    clear HOne HR
    by_cases hj:j<5
    ·obtain⟨g1,rfl⟩:∃ g1,gk=g1+1:=⟨gk - 1,by omega⟩
     have c1:=O.fl (j:=j) (by omega)
     have c2:=O.pl (j:=j) (by omega)
     have hr:=hzero j hj
     obtain⟨x,hx⟩:∃ x,x=plI d a b c k j:=⟨_,rfl⟩
     rw [<-hx] at c2 hr
     have HN:∀ m,Hid (OneS w (wr.drewN m) kc ki k1 k2 (.slice Ca nl cc) M op d a b c k):=fun m=>Lib.hid (O.drewN m)
     have HN0:=Lib.hid O
     replace hx:=Lib.hid hx
     have r0:(0:Int)<=(j:Int):=by omega
     have r1:(j:Int)<5:=by omega
     have r2:decide ((j:Int)<5)=true:=decide_eq_true (by omega)
     cases hf:flI op j with
     |false=>
      rw [hf] at c1
      have hr2:=hr hf
      subst hr2
      clear hr O hf
      go_wp2_with fail
      go_roundg g1
      case measure=>omega
      case rel=>exact⟨j+1,by simp,by omega,by omega,HN0⟩
     |true=>
      rw [hf] at c1
      clear hr O hf
      go_wp2_with fail
      go_roundg g1
      case measure=>omega
      case rel=>exact⟨j+1,by simp,by omega,by omega,HN0⟩
    ·have r2:decide ((j:Int)<5)=false:=decide_eq_false (by omega)
     have c0:wr.cell? ⟨ki,0,none⟩=some (.int .i64 op):=(cell_blk O.bi _).trans rfl
     have c5:wr.cell? ⟨ki,5,none⟩=some (.int .i64 k):=(cell_blk O.bi _).trans rfl
     have c6:wr.cell? ⟨kc,0,none⟩=some (.slice Ca nl cc):=(cell_blk O.bc _).trans rfl
     have hb:=O.below
     clear O hzero
     have h5:(op=10\/op=11\/op=12)\/op=20\/(op=15\/op=16)\/(op=17\/op=18\/op=19)\/(op=1\/op=2\/op=3\/op=4\/op=5\/op=6\/op=7\/op=8\/op=9\/op=13\/op=14):=by omega
     rcases h5 with h|h|h|h|h
     ·obtain⟨y0,y1⟩:=hk1 (by omega)
      have z0:decide (k<0)=false:=decide_eq_false (by omega)
      have z1:decide (63<k)=false:=decide_eq_false (by omega)
      clear hk1 hk2 hk3 hk4 hop
      rcases h with rfl|rfl|rfl<;> (focus (go_wp2_with fail;exact bodyPost_ret (v:=Value.nilIface) (by simp [results,Tryz.results60,go_sem]) rfl ⟨rfl,hb⟩))
     ·obtain⟨y0,y1⟩:=hk2 (by omega)
      have z0:decide (k<0)=false:=decide_eq_false (by omega)
      have z1:decide (2<k)=false:=decide_eq_false (by omega)
      clear hk1 hk2 hk3 hk4 hop
      subst h
      go_wp2_with fail
      exact bodyPost_ret (v:=Value.nilIface) (by simp [results,Tryz.results60,go_sem]) rfl ⟨rfl,hb⟩
     ·obtain⟨y0,y1⟩:=hk3 (by omega)
      have z0:decide (k<0)=false:=decide_eq_false (by omega)
      have z1:decide (65535<k)=false:=decide_eq_false (by omega)
      clear hk1 hk2 hk3 hk4 hop
      rcases h with rfl|rfl<;> (focus (go_wp2_with fail;exact bodyPost_ret (v:=Value.nilIface) (by simp [results,Tryz.results60,go_sem]) rfl ⟨rfl,hb⟩))
     ·obtain⟨y0,y1⟩:=hk4 (by omega)
      have z0:decide (k<0)=false:=decide_eq_false (by omega)
      have z1:decide ((nl:Int)<k)=false:=decide_eq_false (by omega)
      clear hk1 hk2 hk3 hk4 hop
      rcases h with rfl|rfl|rfl<;> (focus (go_wp2_with fail;exact bodyPost_ret (v:=Value.nilIface) (by simp [results,Tryz.results60,go_sem]) rfl ⟨rfl,hb⟩))
     ·clear hk1 hk2 hk3 hk4 hop
      rcases h with rfl|rfl|rfl|rfl|rfl|rfl|rfl|rfl|rfl|rfl|rfl<;> (focus (go_wp2_with fail;exact bodyPost_ret (v:=Value.nilIface) (by simp [results,Tryz.results60,go_sem]) rfl ⟨rfl,hb⟩))
end Go.Proofs.YtkplfaionpplaaaGreatDoor
namespace Go.Proofs.YtkplfaionpplaaaGreatDoor
open Go.RowKit Go.Proofs.YtkplfaionpplaaaGreatDoorW.PrintWords
def wordsV (l:List Int):List Value:=l.map (Value.int .u64)
theorem wordsV_set (l:List Int)(j:Nat)(x:Int):(wordsV l).set j (.int .u64 x)=wordsV (l.set j x):=by simp [wordsV,List.map_set]
theorem made_words (n:Nat):(madeCells (Value.int .u64 0).cells (n * 1)).toList=wordsV (List.replicate n 0):=by
 have e:(Value.int .u64 0).cells= #[.int .u64 0]:=rfl
 rw [e,Nat.mul_one]
 apply List.ext_getElem
 ·simp [madeCells,wordsV]
 ·intro j h1 h2
  simp [madeCells,wordsV,Nat.mod_one]
theorem Tryz.infoU64:(Tryz.prog.info? 56).map (fun i=>(i.zero,i.size,i.bytes))=some (some (.int .u64 0),1,8):=by kernel_rfl
theorem words_get {w:World}{base:Nat}{a:Option Addr}{cap n:Nat}{M:List Int}(h:w.ownsRow base 56 1 (.slice a n cap) n (wordsV M)){j:Nat}(hj:j<M.length)(hn:n=M.length):
  ∃ g,a=some ⟨g,0,none⟩/\w.cell? ⟨g,j,none⟩=some (.int .u64 M[j])/\w.frozen? ⟨g,j,none⟩=false:=by
 subst hn
 obtain⟨g,c,hv,hgb,hgl⟩:=h.form (by omega)
 simp only [Value.slice.injEq] at hv
 obtain⟨rfl, -,rfl⟩:=hv
 refine⟨g,rfl,?_,h.frozenAt _⟩
 rw [h.cellAt _ (by omega)]
 simp [wordsV,hj]
theorem below_grown0 {w w':World}(hg:w.grownBy w' none):Below w.heap.size w w':=below_grown (Below.refl _ _) hg (fun k hk=>by cases hk) (Nat.le_refl _)
theorem cell_lt {w:World}{a:Addr}{v:Value}(h:w.cell? a=some v):a.block<w.heap.size:=by
 unfold World.cell? at h
 cases hb:w.heap[a.block]? with
 |none=>rw [hb] at h;simp at h
 |some o=>exact (Array.getElem?_eq_some_iff.1 hb).1
theorem intsC_cell {w:World}{A:Option Addr}{n:Nat}{l:List Int}{kk:IntKind}(h:(Kd.int kk).C w A n l){j:Nat}(hj:j<l.length){ad:Addr}(he:A=some ad)(hn:j<n:=by omega):w.cell? (ad.add j)=some (.int kk l[j]):=by
 obtain⟨ad',e,h1⟩:=intsC_get h hn hj
 rw [he] at e
 cases e
 exact h1
theorem frozen_since {w w':World}{a:Addr}{v:Value}(hb:Below w.heap.size w w')(h:w.cell? a=some v)(hf:w.frozen? a=false):w'.frozen? a=false:=by
 unfold World.frozen? at hf ⊢
 rw [hb.block _ (cell_lt h)]
 exact hf
theorem setRow_step {m a:List Int}{at_ k:Nat}(h:k<a.length):Al.setRow m (at_+k) (a.drop k)=Al.setRow (m.set (at_+k) a[k]) (at_+(k+1)) (a.drop (k+1)):=by
 rw [List.drop_eq_getElem_cons h];rfl
theorem word_set {w:World}{base g cap n:Nat}{M:List Int}(h:w.ownsRow base 56 1 (.slice (some ⟨g,0,none⟩) n cap) n (wordsV M))(j:Nat)(x:Int):
  (w.setCell ⟨g,j,none⟩ (.int .u64 x)).ownsRow base 56 1 (.slice (some ⟨g,0,none⟩) n cap) n (wordsV (M.set j x))/\base<=g:=by
 obtain⟨s1,_⟩:=h.stored j (.int .u64 x)
 rw [wordsV_set] at s1
 exact⟨s1,(h.lt g rfl).1⟩
structure MB (w0 w:World)(kp g n:Nat)(p:Al.Prog)(Va Ab:Option Addr)(vc cb:Nat)(M:List Int):Prop where
 p:PBox w kp p Va Ab vc cb
 m:w.ownsRow w0.heap.size 56 1 (.slice (some ⟨g,0,none⟩) n n) n (wordsV M)
 b:Below w0.heap.size w0 w
section
variable {w0 w w':World} {kp g n:Nat} {p:Al.Prog} {Va Ab:Option Addr} {vc cb:Nat} {M:List Int}
theorem MB.ne (h:MB w0 w kp g n p Va Ab vc cb M):kp≠g:=fun e=>by subst e;exact own_ne_blk h.m h.p (by decide) rfl
theorem MB.below (h:MB w0 w kp g n p Va Ab vc cb M)(hb:Below w.heap.size w w'):MB w0 w' kp g n p Va Ab vc cb M:=
 ⟨below_blk hb h.p (blk_lt h.p),own_of h.m fun k hk=>hb.block k (h.m.lt k hk).2,h.b.trans (lower_below hb h.b.size)⟩
theorem MB.drew (h:MB w0 w kp g n p Va Ab vc cb M):MB w0 w.drew kp g n p Va Ab vc cb M:=⟨h.p,h.m,below_drew' h.b⟩
theorem MB.drewN (h:MB w0 w kp g n p Va Ab vc cb M)(k:Nat):MB w0 (w.drewN k) kp g n p Va Ab vc cb M:=⟨h.p,h.m,⟨h.b.os,h.b.tape,h.b.output,h.b.size,h.b.block⟩⟩
theorem MB.set (h:MB w0 w kp g n p Va Ab vc cb M)(j:Nat)(x:Int):MB w0 (w.setCell ⟨g,j,none⟩ (.int .u64 x)) kp g n p Va Ab vc cb (M.set j x):=
 ⟨by rw [PBox,set_blk_ne _ _ h.ne];exact h.p,(word_set h.m j x).1,below_set h.b (word_set h.m j x).2⟩
theorem MB.len (h:MB w0 w kp g n p Va Ab vc cb M):M.length=n:=by have:=own_one h.m;simpa [wordsV] using this
theorem MB.keep (h:MB w0 w kp g n p Va Ab vc cb M){base:Nat}{e:TypeId}{size n':Nat}{v:Value}{xs:List Value}(hk:w.ownsRow base e size v n' xs)(he:56≠e)(j:Nat)(u:Value):(w.setCell ⟨g,j,none⟩ u).ownsRow base e size v n' xs:=by
 obtain⟨c,hc⟩:=own_type h.m rfl
 exact own_of hk fun k hv=>set_blk_ne _ _ fun e2=>own_ne_blk hk hc he (by rw [hv,e2])
theorem MB.word (h:MB w0 w kp g n p Va Ab vc cb M){j:Nat}(hj:j<n):∃ x,w.cell? ⟨g,j,none⟩=some (.int .u64 x)/\w.frozen? ⟨g,j,none⟩=false:=by
 have hl:=h.len
 obtain⟨g',e,h1,h2⟩:=words_get (M:=M) h.m (j:=j) (by omega) hl.symm
 cases e
 exact⟨_,h1,h2⟩
end
theorem ref_memory {w:World}{p:Al.Prog}{Va Ab Ia Ta:Option Addr}{vc cb ic tc:Nat}{ins:List (List Int)}{tape:List Int}{mem:Nat}(hp:PLies w p Va Ab vc cb)(hF:Al.Fine p)(hio:Al.InOk p ins tape)
  (hi:Kd.C (Kd.slice 3 (Kd.int .i64)) w Ia ins.length ins) (ht:(Kd.int .u32).C w Ta tape.length tape) (ht0:∀ x∈tape,0<=x/\x<4294967296) (hmem:Al.endF p+4096<=(mem:Int)) (hmem2:mem<=65536):
  Calls Tryz.prog 11 #[progV p Va Ab vc cb,.int .i64 mem,.slice Ia ins.length ic,.slice Ta tape.length tc] w fun e w'=>∃ v,e= .returned v/\w'.ownsRow w.heap.size 56 1 v mem (wordsV (Al.memF p mem ins tape))/\Below w.heap.size w w':=by
 obtain⟨j0,hj0,jz0,jz1,jz2⟩:=info_parts Tryz.infoU64
 obtain⟨W,hW⟩:∃ W,W=w.alloc (.cells #[.int .i64 p.q,.int .i64 p.n,.slice Va p.vars.length vc,.slice Ab p.body.length cb] 27):=⟨_,rfl⟩
 have hb0:Below w.heap.size w W:=by rw [hW];exact (Below.refl _ _).alloc (Nat.le_refl _) _
 obtain⟨kp,hkp⟩:∃ kp,kp=w.heap.size:=⟨_,rfl⟩
 have P0:PBox W kp p Va Ab vc cb:=by rw [hW,hkp];exact heap_alloc_new w _
 have hq:=hF.q
 have hn:=hF.n
 have hvl:=hF.vars
 have hnv:0<=(p.vars.length:Int) * p.n:=Int.mul_nonneg (by omega) (by omega)
 have hE:Al.endF p=2+p.vars.length * p.n:=rfl
 have htl:=hio.tape
 have hm4:4098<=mem:=by omega
 obtain⟨K,hK⟩:∃ K,K=Al.kindsOf p.vars 1:=⟨_,rfl⟩
 have hKl:K.length=ins.length:=by rw [hK];exact hio.len.symm
 have hKlH:=Lib.hid hKl
 have hKr:∀ (i:Nat) (h:i<K.length),0<=K[i]/\K[i]<p.vars.length:=fun i h=>Al.kindsOf_range (by rw [<-hK];exact List.getElem_mem h)
 have hK12:K.length<=12:=by rw [hK];have:=kindsFrom_len p.vars 1 0;unfold Al.kindsOf;omega
 obtain⟨FM,hFM⟩:∃ FM,FM=Al.memF p mem ins tape:=⟨_,rfl⟩
 rw [<-hFM]
 unfold Al.memF at hFM
 rw [<-hK] at hFM
 have HK:∀ W0:World,Below w.heap.size w W0->Calls Tryz.prog 33 #[.agg #[.int .i64 p.q,.int .i64 p.n,.slice Va p.vars.length vc,.slice Ab p.body.length cb],.int .i64 1] W0 fun e w'=>∃ v,e= .returned v/\w'.ownsRow W0.heap.size 3 1 v K.length (intsV K)/\Below W0.heap.size W0 w':=by
  intro W0 hb
  have:=ref_kinds (w:=W0) (q:=p.q) (n:=p.n) (vc:=vc) Ab p.body.length cb (Kd.C_below hp.v hb) (by omega) 1
  rw [<-hK] at this
  exact this
 replace hK:=Lib.hid hK
 have wt:IntKind.u64.wrap (tape.length:Int)=tape.length:=IntWalk.u64_in _ (by omega)
 have HP:=Lib.hid hp
 have HI:=Lib.hid hi
 have HT:=Lib.hid ht
 have hvec:=Lib.hid hio.vec
 clear hKl
 have ht0h:=Lib.hid ht0
 have HFM:=Lib.hid hFM
 have hEh:=Lib.hid hE
 clear hp hi ht hF hio ht0 hFM hE
 go_enter Tryz.func11,Tryz.ntmps11
 unfold progV
 go_wp2_with (first
  |(at_make;refine wpList_make_full _ rfl _ _ 47 rfl w.heap.size 56 j0 (.int .u64 0) 1 Tryz.underlying47 hj0 jz0 jz1 .i64 .i64 _ _ mem rfl rfl rfl rfl (by rw [jz2];omega) (by unfold maxLen;omega) (by rw [<-hW];exact hb0.size) ?_;intro w1 hown1 hgrow1;rw [made_words] at hown1;rw [<-hW] at hown1 hgrow1 ⊢;obtain⟨g,hg⟩:∃ g,g=W.heap.size:=⟨_,rfl⟩;rw [<-hg] at hown1 ⊢;simp only [<-hkp];have M0:MB w w1 kp g mem p Va Ab vc cb (List.replicate mem 0):=⟨below_blk (below_grown0 hgrow1) P0 (blk_lt P0),hown1,hb0.trans (lower_below (below_grown0 hgrow1) hb0.size)⟩;obtain⟨x0,s0,y0⟩:=M0.word (j:=0) (by omega);have M1:=M0.set 0 (tape.length:Int);obtain⟨p0,p1,p2,p3⟩:=M1.p.cells;clear hown1 hgrow1 hg hW hkp hb0 P0)
  |(go_at_call 33;refine (HK _ M1.b).mono ?_;rintro e w2 ⟨vk,rfl,hok,hb2⟩;obtain⟨ka,kc,rfl⟩:=own_slice hok;have M2:=M1.below hb2;clear p0 p1 p2 p3 s0 y0 M0 M1 hb2))
 obtain⟨S1,hS1⟩:∃ S1,S1=Al.setRows p ((List.replicate mem 0).set 0 (tape.length:Int)) K ins:=⟨_,rfl⟩
 have HFM2:=show FM=_ from HFM
 rw [show ((mem:Int).toNat)=mem from rfl,<-hS1] at HFM2
 have HFM3:=Lib.hid HFM2
 obtain⟨bk,hbk⟩:∃ bk,bk=(w1.setCell ⟨g,0,none⟩ (.int .u64 (tape.length:Int))).heap.size:=⟨_,rfl⟩
 rw [<-hbk] at hok
 have HH:Hid (MB w w2 kp g mem p Va Ab vc cb ((List.replicate mem 0).set 0 (tape.length:Int))/\w2.ownsRow bk 3 1 (.slice ka K.length kc) K.length (intsV K)):=Lib.hid ⟨M2,hok⟩
 replace hS1:=Lib.hid hS1
 clear M2 hok hbk HFM HFM2 HK wt
 go_loopg [11,12] (K.length+1) (fun gk v11 v12 w'=>∃ i:Nat,v11= .int .i64 i/\i+gk=K.length+1/\i<=K.length/\∃ mc:List Int,Hid (S1=Al.setRows p mc (K.drop i) (ins.drop i))/\Hid (MB w w' kp g mem p Va Ab vc cb mc/\w'.ownsRow bk 3 1 (.slice ka K.length kc) K.length (intsV K)))
 case atStart=>exact⟨0,rfl,by omega,by omega,_,Lib.hid (show S1=_ from hS1),HH⟩
 case round=>
  obtain⟨i,rfl,hg,hi2,mc,HS,HM⟩:=hrel
  have hS:=show S1=Al.setRows p mc (K.drop i) (ins.drop i) from HS
  obtain⟨M2,hok⟩:=show MB w wr kp g mem p Va Ab vc cb mc/\wr.ownsRow bk 3 1 (.slice ka K.length kc) K.length (intsV K) from HM
  clear HH HS HM
  by_cases hil:i<K.length
  ·obtain⟨k1,rfl⟩:∃ k1,gk=k1+1:=⟨gk - 1,by omega⟩
   have hii:i<ins.length:=by have:=show K.length=ins.length from hKlH;omega
   obtain⟨ad,A0,c0,rfl,d0,l0,g0⟩:=at_L4 (show Kd.C (Kd.slice 3 (Kd.int .i64)) w Ia ins.length ins from HI) (i:Int) (by omega) (by omega)
   simp only [Int.toNat_natCast] at d0
   have hx0:rd_L4 ins (i:Int)=ins[i]:=by unfold rd_L4;simp [List.getD_eq_getElem?_getD,hii]
   rw [hx0] at d0 l0 g0
   rw [List.drop_eq_getElem_cons hil,List.drop_eq_getElem_cons hii] at hS
   unfold Al.setRows at hS
   have hv:=(show ∀ (a:List Int),a∈ins-> ↑a.length=p.n/\∀ (x:Int),x∈a->0<=x/\x<p.q from hvec) ins[i] (List.getElem_mem hii)
   obtain⟨a,ha⟩:∃ a,a=ins[i]:=⟨_,rfl⟩
   rw [<-ha] at d0 l0 g0 hS hv
   clear ha hx0
   obtain⟨gi,hka,dk⟩:=ints_get (own_ints hok) hil
   have hkr:=hKr i hil
   obtain⟨kv,hkv⟩:∃ kv,kv=K[i]:=⟨_,rfl⟩
   rw [<-hkv] at dk hkr hS
   have hkvH:=Lib.hid hkv
   clear hkv
   have hpn:kv * p.n+p.n<=p.vars.length * p.n:=by
    have h:(kv+1) * p.n<=(p.vars.length:Int) * p.n:=Int.mul_le_mul_of_nonneg_right (by omega) (by omega)
    rw [Int.add_mul,Int.one_mul] at h
    exact h
   have hkn0:0<=kv * p.n:=Int.mul_nonneg (by omega) (by omega)
   obtain⟨pl,hpl⟩:∃ pl:Nat,(pl:Int)=Al.placeF p kv:=⟨(Al.placeF p kv).toNat,by have:Al.placeF p kv=2+kv * p.n:=rfl;omega⟩
   have hplv:Al.placeF p kv=2+kv * p.n:=rfl
   have hplb:(pl:Int)+p.n+4096<=mem:=by have:=show Al.endF p=_ from hEh;omega
   have hlen:(a.length:Int)=p.n:=hv.1
   have hlenH:=Lib.hid hlen
   have hax:=Lib.hid hv.2
   have hS':S1=Al.setRows p (Al.setRow mc pl a) (K.drop (i+1)) (ins.drop (i+1)):=by rw [hS,<-hpl];rfl
   replace hS':=Lib.hid hS'
   have HPl:=fun w0=>ref_place w0 p Va Ab vc cb kv (by omega) (by omega)
   unfold progV at HPl
   rw [<-hpl] at HPl
   clear hpn hkn0 hplv hS hv hpl
   have r0:(0:Int)<=(i:Int):=by omega
   have r1:(i:Int)<(K.length:Int):=by omega
   have r2:decide ((i:Int)<(K.length:Int))=true:=decide_eq_true r1
   obtain⟨row1,hrow1⟩:∃ row1,row1=Al.setRow mc pl a:=⟨_,rfl⟩
   have hS2:=show S1=Al.setRows p (Al.setRow mc pl a) (K.drop (i+1)) (ins.drop (i+1)) from hS'
   rw [<-hrow1] at hS2
   replace hS2:=Lib.hid hS2
   replace hrow1:=Lib.hid hrow1
   have dI:=Lib.hid d0
   have gI:=Lib.hid g0
   have hkaH:=Lib.hid hka
   have HH:Hid (MB w wr kp g mem p Va Ab vc cb mc/\wr.ownsRow bk 3 1 (.slice ka K.length kc) K.length (intsV K)):=Lib.hid ⟨M2,hok⟩
   clear d0 g0 hka dk M2 hok hS' hlen
   go_wp2_with fail
   go_loopg [12] (a.length+1) (fun gk2 v12 w'=>∃ k:Nat,v12= .int .i64 k/\k+gk2=a.length+1/\k<=a.length/\∃ mk:List Int,Hid (row1=Al.setRow mk (pl+k) (a.drop k))/\Hid (MB w w' kp g mem p Va Ab vc cb mk/\w'.ownsRow bk 3 1 (.slice ka K.length kc) K.length (intsV K)))
   case atStart=>exact⟨0,rfl,by omega,by omega,mc,Lib.hid (show row1=_ from hrow1),HH⟩
   case round=>
    obtain⟨k,rfl,hg2,hk2,mk,HR,HM⟩:=hrel
    have hrw:=show row1=Al.setRow mk (pl+k) (a.drop k) from HR
    obtain⟨M2,hok⟩:=show MB w wr kp g mem p Va Ab vc cb mk/\wr.ownsRow bk 3 1 (.slice ka K.length kc) K.length (intsV K) from HM
    clear HH HR HM
    have hlen:=show (a.length:Int)=p.n from hlenH
    obtain⟨p0,p1,p2,p3⟩:=M2.p.cells
    by_cases hkl:k<a.length
    ·obtain⟨k3,rfl⟩:∃ k3,gk=k3+1:=⟨gk - 1,by omega⟩
     rw [setRow_step hkl] at hrw
     obtain⟨ad0,hA0,c0'⟩:=intsC_get (show (Kd.int .i64).C w A0 a.length a from gI) hkl hkl
     have hx:=(show ∀ (x:Int),x∈a->0<=x/\x<p.q from hax) a[k] (List.getElem_mem hkl)
     obtain⟨x,hxe⟩:∃ x,x=a[k]:=⟨_,rfl⟩
     rw [<-hxe] at c0' hrw hx
     subst hA0
     clear hxe
     replace c0':=cell_since M2.b c0'
     have d0:=cell_since M2.b (show w.cell? (ad.add i)=_ from dI)
     obtain⟨gi,hka,dk⟩:=ints_get (own_ints hok) hil
     subst hka
     have hkv2:K[i]=kv:=(show kv=K[i] from hkvH).symm
     rw [hkv2] at dk
     obtain⟨xo,s0,y0⟩:=M2.word (j:=pl+k) (by omega)
     have n1:g≠kp:=Ne.symm M2.ne
     have n2:g≠gi:=fun e=>by
      obtain⟨c1,hc1⟩:=own_type M2.m rfl
      exact own_ne_blk hok hc1 (by decide) (by rw [e];rfl)
     have hadb:(ad.add i).block<w.heap.size:=cell_lt (show w.cell? (ad.add i)=_ from dI)
     have had0:(ad0.add k).block<w.heap.size:=cell_lt (intsC_cell (show (Kd.int .i64).C w (some ad0) a.length a from gI) hkl rfl)
     have hgb:w.heap.size<=g:=(word_set M2.m 0 0).2
     have n3:g≠(ad.add i).block:=by omega
     have n4:g≠(ad0.add k).block:=by omega
     have M2d:=M2.drew
     have hokd:=hok.drew
     have wx:IntKind.u64.wrap x=x:=IntWalk.u64_in _ (by omega)
     have wpk:IntKind.i64.wrap ((pl:Int)+(k:Int))=(pl:Int)+(k:Int):=IntWalk.i64_in _ (by omega)
     have q0:(0:Int)<=(k:Int):=by omega
     have q1:(k:Int)<(a.length:Int):=by omega
     have q2:decide ((k:Int)<p.n)=true:=decide_eq_true (by omega)
     have q3:(0:Int)<=(pl:Int)+(k:Int):=by omega
     have q4:(pl:Int)+(k:Int)<(mem:Int):=by omega
     have q5:((pl:Int)+(k:Int)).toNat=pl+k:=by omega
     clear hlen
     have HH2:Hid (MB w wr kp g mem p Va Ab vc cb mk/\wr.ownsRow bk 3 1 (.slice (some ⟨gi,0,none⟩) K.length kc) K.length (intsV K)):=Lib.hid ⟨M2,hok⟩
     go_wp2_with fail
     go_region_held3 (fun w'=>w'.cell? ⟨kp,0,none⟩=some (.int .i64 p.q)/\w'.cell? ⟨kp,1,none⟩=some (.int .i64 p.n)/\w'.cell? ⟨kp,2,none⟩=some (.slice Va p.vars.length vc)/\w'.cell? ⟨kp,3,none⟩=some (.slice Ab p.body.length cb)/\w'.cell? ⟨gi,i,none⟩=some (.int .i64 kv)/\w'.cell? (ad.add i)=some (.slice (some ad0) a.length c0)/\w'.cell? (ad0.add k)=some (.int .i64 x)) (first|(refine⟨?_,?_,?_,?_,?_,?_,?_⟩<;> assumption)|(refine⟨?_,?_,?_,?_,?_,?_,?_⟩<;> first|(rw [World.cell?_setCell_far _ _ _ _ n1];assumption)|(rw [World.cell?_setCell_far _ _ _ _ n2];assumption)|(rw [World.cell?_setCell_far _ _ _ _ n3];assumption)|(rw [World.cell?_setCell_far _ _ _ _ n4];assumption))|go_keep) (first
      |(go_at_call 27;refine (HPl _).mono ?_;rintro e w2 ⟨rfl,hb2⟩;replace hb2:=undrew hb2;have M3:=M2.below hb2;have hok3:=own_of hok fun k hk=>hb2.block k (hok.lt k hk).2;obtain⟨e0,e1,e2,e3⟩:=M3.p.cells;have e4:=cell_since hb2 dk;have e5:=cell_since hb2 d0;have e6:=cell_since hb2 c0';have e7:=cell_since hb2 s0;have e8:=frozen_since hb2 s0 y0))
     obtain⟨W4,hW4⟩:∃ W4,W4=w2.setCell ⟨g,pl+k,none⟩ (.int .u64 x):=⟨_,rfl⟩
     have HN:Hid (row1=Al.setRow (mk.set (pl+k) x) (pl+(k+1)) (a.drop (k+1))):=Lib.hid hrw
     have HN2:Hid (MB w W4 kp g mem p Va Ab vc cb (mk.set (pl+k) x)/\W4.ownsRow bk 3 1 (.slice (some ⟨gi,0,none⟩) K.length kc) K.length (intsV K)):=by rw [hW4];exact Lib.hid ⟨M3.set _ _,M3.keep hok3 (by decide) _ _⟩
     rw [<-hW4]
     clear hW4 hrw M3 M2 hok hok3 e0 e1 e2 e3 e4 e5 e6 e7 e8 p0 p1 p2 p3 d0 c0' dk s0 y0 hb2 HH2 M2d hokd
     go_wp2_with fail
     go_roundg k3
     case measure=>omega
     case rel=>exact⟨k+1,by simp,by omega,by omega,_,HN,HN2⟩
    ·have hke:k=a.length:=by omega
     have q2:decide ((k:Int)<p.n)=false:=decide_eq_false (by omega)
     rw [hke,List.drop_length] at hrw
     have hmk:mk=row1:=hrw.symm
     have HN:Hid (MB w wr kp g mem p Va Ab vc cb mk/\wr.ownsRow bk 3 1 (.slice ka K.length kc) K.length (intsV K)):=Lib.hid ⟨M2,hok⟩
     have HS3:Hid (S1=Al.setRows p mk (K.drop (i+1)) (ins.drop (i+1))):=by rw [hmk];exact hS2
     clear hmk hrw M2 hok hke hlen
     go_wp2_with fail
     go_roundg k1
     case measure=>omega
     case rel=>exact⟨i+1,by simp,by omega,by omega,mk,HS3,HN⟩
  ·obtain rfl:i=K.length:=by omega
   have t1:decide ((K.length:Int)<(K.length:Int))=false:=by simp
   rw [List.drop_length] at hS
   have hS2:S1=mc:=by rw [hS];unfold Al.setRows;rfl
   have hFM:=show FM=Al.setRow S1 (Al.endF p).toNat tape from HFM3
   rw [hS2] at hFM
   obtain⟨en,hen⟩:∃ en:Nat,(en:Int)=Al.endF p:=⟨(Al.endF p).toNat,by have:=show Al.endF p=_ from hEh;omega⟩
   have hen2:(Al.endF p).toNat=en:=by omega
   rw [hen2] at hFM
   have hEb:(en:Int)+4096<=mem:=by omega
   have HTp:=fun w0=>ref_tape w0 p Va Ab vc cb (by omega) (by omega)
   unfold progV at HTp
   rw [<-hen] at HTp
   have HFI:=Lib.hid hFM
   have HH:Hid (MB w wr kp g mem p Va Ab vc cb mc/\wr.ownsRow bk 3 1 (.slice ka K.length kc) K.length (intsV K)):=Lib.hid ⟨M2,hok⟩
   clear hFM hen hen2 hS2 hS M2 hok
   go_wp2_with fail
   go_loopg [13] (tape.length+1) (fun gk v13 w'=>∃ k:Nat,v13= .int .i64 k/\k+gk=tape.length+1/\k<=tape.length/\∃ mk:List Int,Hid (FM=Al.setRow mk (en+k) (tape.drop k))/\Hid (MB w w' kp g mem p Va Ab vc cb mk/\w'.ownsRow bk 3 1 (.slice ka K.length kc) K.length (intsV K)))
   case atStart=>exact⟨0,rfl,by omega,by omega,mc,Lib.hid (show FM=_ from HFI),HH⟩
   case round=>
    obtain⟨k,rfl,hg2,hk2,mk,HR,HM⟩:=hrel
    have hrw:=show FM=Al.setRow mk (en+k) (tape.drop k) from HR
    obtain⟨M2,hok⟩:=show MB w wr kp g mem p Va Ab vc cb mk/\wr.ownsRow bk 3 1 (.slice ka K.length kc) K.length (intsV K) from HM
    clear HH HR HM
    obtain⟨p0,p1,p2,p3⟩:=M2.p.cells
    by_cases hkl:k<tape.length
    ·obtain⟨k3,rfl⟩:∃ k3,gk=k3+1:=⟨gk - 1,by omega⟩
     rw [setRow_step hkl] at hrw
     obtain⟨ad0,rfl,c0'⟩:=intsC_get (show (Kd.int .u32).C w Ta tape.length tape from HT) hkl hkl
     have had0:(ad0.add k).block<w.heap.size:=cell_lt c0'
     have hx:=(show ∀ (x:Int),x∈tape->0<=x/\x<4294967296 from ht0h) tape[k] (List.getElem_mem hkl)
     obtain⟨x,hxe⟩:∃ x,x=tape[k]:=⟨_,rfl⟩
     rw [<-hxe] at c0' hrw hx
     clear hxe
     replace c0':=cell_since M2.b c0'
     obtain⟨xo,s0,y0⟩:=M2.word (j:=en+k) (by omega)
     have n1:g≠kp:=Ne.symm M2.ne
     have hgb:w.heap.size<=g:=(word_set M2.m 0 0).2
     have n4:g≠(ad0.add k).block:=by omega
     have wx:IntKind.u64.wrap x=x:=IntWalk.u64_in _ (by omega)
     have wpk:IntKind.i64.wrap ((en:Int)+(k:Int))=(en:Int)+(k:Int):=IntWalk.i64_in _ (by omega)
     have q0:(0:Int)<=(k:Int):=by omega
     have q1:(k:Int)<(tape.length:Int):=by omega
     have q2:decide ((k:Int)<(tape.length:Int))=true:=decide_eq_true q1
     have q3:(0:Int)<=(en:Int)+(k:Int):=by omega
     have q4:(en:Int)+(k:Int)<(mem:Int):=by omega
     have q5:((en:Int)+(k:Int)).toNat=en+k:=by omega
     go_wp2_with fail
     go_region_held3 (fun w'=>w'.cell? ⟨kp,0,none⟩=some (.int .i64 p.q)/\w'.cell? ⟨kp,1,none⟩=some (.int .i64 p.n)/\w'.cell? ⟨kp,2,none⟩=some (.slice Va p.vars.length vc)/\w'.cell? ⟨kp,3,none⟩=some (.slice Ab p.body.length cb)/\w'.cell? (ad0.add k)=some (.int .u32 x)) (first|(refine⟨?_,?_,?_,?_,?_⟩<;> assumption)|(refine⟨?_,?_,?_,?_,?_⟩<;> first|(rw [World.cell?_setCell_far _ _ _ _ n1];assumption)|(rw [World.cell?_setCell_far _ _ _ _ n4];assumption))|go_keep) (first
      |(go_at_call 24;refine (HTp _).mono ?_;rintro e w2 ⟨rfl,hb2⟩;replace hb2:=undrew hb2;have M3:=M2.below hb2;have hok3:=own_of hok fun k hk=>hb2.block k (hok.lt k hk).2;obtain⟨e0,e1,e2,e3⟩:=M3.p.cells;have e6:=cell_since hb2 c0';have e7:=cell_since hb2 s0;have e8:=frozen_since hb2 s0 y0))
     obtain⟨W4,hW4⟩:∃ W4,W4=w2.setCell ⟨g,en+k,none⟩ (.int .u64 x):=⟨_,rfl⟩
     have HN:Hid (FM=Al.setRow (mk.set (en+k) x) (en+(k+1)) (tape.drop (k+1))):=Lib.hid hrw
     have HN2:Hid (MB w W4 kp g mem p Va Ab vc cb (mk.set (en+k) x)/\W4.ownsRow bk 3 1 (.slice ka K.length kc) K.length (intsV K)):=by rw [hW4];exact Lib.hid ⟨M3.set _ _,M3.keep hok3 (by decide) _ _⟩
     rw [<-hW4]
     clear hW4 hrw M3 M2 hok hok3 e0 e1 e2 e3 e6 e7 e8 p0 p1 p2 p3 c0' s0 y0 hb2
     go_wp2_with fail
     go_roundg k3
     case measure=>omega
     case rel=>exact⟨k+1,by simp,by omega,by omega,_,HN,HN2⟩
    ·obtain rfl:k=tape.length:=by omega
     have q2:decide ((tape.length:Int)<(tape.length:Int))=false:=decide_eq_false (by omega)
     rw [List.drop_length] at hrw
     have hmk:mk=FM:=hrw.symm
     have hm:=M2.m
     have hb:=M2.b
     rw [hmk] at hm
     clear hmk hrw M2 hok
     go_wp2_with fail
     exact bodyPost_ret (v:= .slice (some ⟨g,0,none⟩) mem mem) (by simp [results,Tryz.results11,go_sem]) rfl ⟨_,rfl,hm,hb⟩
end Go.Proofs.YtkplfaionpplaaaGreatDoor
namespace Go.Proofs
open Go.Shelf
end Go.Proofs
namespace Go.Proofs.YtkplfaionpplaaaGreatDoor
open Go.RowKit
theorem insts_at6 (l:List Al.Inst)(k:Nat)(hk:k<l.length)(j:Nat)(hj:j<6):(instsV l)[k * 6+j]?=(instCells l[k])[j]?:=by
 induction l generalizing k with
 |nil=>simp at hk
 |cons s l ih=>
  cases k with
  |zero=>simp only [instsV,List.flatMap_cons,Nat.zero_mul,Nat.zero_add];rw [List.getElem?_append_left (by simp [instCells];omega)];rfl
  |succ k=>
   have e:(k+1) * 6+j=6+(k * 6+j):=by omega
   simp only [instsV,List.flatMap_cons] at ih ⊢
   rw [e,List.getElem?_append_right (by simp [instCells])]
   have:=ih k (by simpa using hk)
   simpa [instCells] using this
theorem insts_get {w:World}{base:Nat}{a:Option Addr}{cap:Nat}{L:List Al.Inst}(h:w.ownsRow base 97 6 (.slice a L.length cap) L.length (instsV L)){j:Nat}(hj:j<L.length):
  ∃ g,a=some ⟨g,0,none⟩/\w.cell? ⟨g,j * 6,none⟩=some (.int .i64 (L[j]).op)/\w.cell? ⟨g,j * 6+1,none⟩=some (.int .i64 (L[j]).d)/\w.cell? ⟨g,j * 6+2,none⟩=some (.int .i64 (L[j]).a)/\w.cell? ⟨g,j * 6+3,none⟩=some (.int .i64 (L[j]).b)/\w.cell? ⟨g,j * 6+4,none⟩=some (.int .i64 (L[j]).c)/\w.cell? ⟨g,j * 6+5,none⟩=some (.int .i64 (L[j]).k):=by
 obtain⟨g,c,hv,hgb,hgl⟩:=h.form (by omega)
 simp only [Value.slice.injEq] at hv
 have hl:=insts_len L
 obtain⟨rfl, -,rfl⟩:=hv
 have f:∀ i,i<6->w.cell? ⟨g,j * 6+i,none⟩=(instCells L[j])[i]?:=fun i hi=>by rw [h.cellAt _ (by omega),insts_at6 L j hj i hi]
 exact⟨g,rfl,f 0 (by omega),f 1 (by omega),f 2 (by omega),f 3 (by omega),f 4 (by omega),f 5 (by omega)⟩
structure RC where
 kc:Nat
 kx:Nat
 kr:Nat
 gm:Nat
 gr:Nat
 mem:Nat
 mcap:Nat
 ia:Option Addr
 ic:Nat
 c:List Al.Inst
structure RW (w0 w:World)(C:RC)(regs mm:List Int)(leaks:List Al.Leak)(vl:Value)(steps:Int):Prop where
 cb:w.heap[C.kc]?=some (.cells #[.slice C.ia C.c.length C.ic,.int .i64 24,.int .i64 C.mem] 53 (0,0))
 xb:w.heap[C.kx]?=some (.cells #[.int .i64 0,.slice none 0 0,.slice none 0 0,.int .i64 0,.int .i64 0] 51 (0,0))
 rb:w.heap[C.kr]?=some (.cells #[.int .i64 0,.slice (some ⟨C.gm,0,none⟩) C.mem C.mcap,vl,.int .i64 steps,.int .i64 (-1)] 51 (0,0))
 mo:w.ownsRow w0.heap.size 56 1 (.slice (some ⟨C.gm,0,none⟩) C.mem C.mcap) C.mem (wordsV mm)
 ro:w.ownsRow w0.heap.size 56 1 (.slice (some ⟨C.gr,0,none⟩) 25 25) 25 (wordsV regs)
 lo:w.ownsRow w0.heap.size 103 2 vl leaks.length (leaksV leaks)
 b:Below w0.heap.size w0 w
 ne:C.gm≠C.gr
 nx:C.kx≠C.kr
 nc:C.kc≠C.kr
 hr:w0.heap.size<=C.kr
 hx:w0.heap.size<=C.kx
section
variable {w0 w w':World} {C:RC} {regs mm:List Int} {leaks:List Al.Leak} {vl:Value} {steps:Int}
theorem RW.of (h:RW w0 w C regs mm leaks vl steps)(hs:∀ (k:Nat) (o:Obj),w.heap[k]?=some o->w'.heap[k]?=some o)(hb:Below w0.heap.size w0 w'):RW w0 w' C regs mm leaks vl steps:=
 have f:∀ {base:Nat} {e:TypeId} {size:Nat} {v:Value} {n:Nat} {xs:List Value},w.ownsRow base e size v n xs->w'.ownsRow base e size v n xs:=fun ho=>own_of ho fun k hk=>by
  obtain⟨c,hc⟩:=own_type ho hk
  rw [hs k _ hc,hc]
 ⟨hs _ _ h.cb,hs _ _ h.xb,hs _ _ h.rb,f h.mo,f h.ro,f h.lo,hb,h.ne,h.nx,h.nc,h.hr,h.hx⟩
theorem RW.alloc (h:RW w0 w C regs mm leaks vl steps)(o:Obj):RW w0 (w.alloc o) C regs mm leaks vl steps:=h.of (fun k x hx=>alloc_blk o hx) (h.b.alloc h.b.size _)
theorem RW.below (h:RW w0 w C regs mm leaks vl steps)(hb:Below w.heap.size w w'):RW w0 w' C regs mm leaks vl steps:=h.of (fun k x hx=>below_blk hb hx (blk_lt hx)) (h.b.trans (lower_below hb h.b.size))
theorem RW.drew (h:RW w0 w C regs mm leaks vl steps):RW w0 w.drew C regs mm leaks vl steps:=h.of (fun k x hx=>hx) (below_drew' h.b)
theorem RW.drewN (h:RW w0 w C regs mm leaks vl steps)(n:Nat):RW w0 (w.drewN n) C regs mm leaks vl steps:=h.of (fun k x hx=>hx) ⟨h.b.os,h.b.tape,h.b.output,h.b.size,h.b.block⟩
theorem own_set_ne {w:World}{base k j:Nat}{e t:TypeId}{size:Nat}{v:Value}{n:Nat}{xs:List Value}{c:Array Value}{f:Nat×Nat}(h:w.ownsRow base e size v n xs)(hk:w.heap[k]?=some (.cells c t f))(ht:t≠e)(u:Value):(w.setCell ⟨k,j,none⟩ u).ownsRow base e size v n xs:=
 own_of h fun i hi=>set_blk_ne _ _ fun e2=>own_ne_blk h hk ht (by rw [hi,e2])
theorem RW.kc_ne (h:RW w0 w C regs mm leaks vl steps):C.kc≠C.gr/\C.kc≠C.gm/\C.kx≠C.gr/\C.kx≠C.gm/\C.kr≠C.gr/\C.kr≠C.gm:=
 have f:∀ {k g cap n:Nat} {c:Array Value} {t:TypeId} {xs:List Value},w.heap[k]?=some (.cells c t (0,0))->w.ownsRow w0.heap.size 56 1 (.slice (some ⟨g,0,none⟩) n cap) n xs->t≠56->k≠g:=fun hk ho ht e=>by subst e;exact own_ne_blk ho hk ht rfl
 ⟨f h.cb h.ro (by decide),f h.cb h.mo (by decide),f h.xb h.ro (by decide),f h.xb h.mo (by decide),f h.rb h.ro (by decide),f h.rb h.mo (by decide)⟩
theorem RW.field (h:RW w0 w C regs mm leaks vl steps)(j:Nat)(u:Value):(w.setCell ⟨C.kr,j,none⟩ u).heap[C.kc]?=w.heap[C.kc]?/\(w.setCell ⟨C.kr,j,none⟩ u).heap[C.kx]?=w.heap[C.kx]?/\
  (w.setCell ⟨C.kr,j,none⟩ u).ownsRow w0.heap.size 56 1 (.slice (some ⟨C.gm,0,none⟩) C.mem C.mcap) C.mem (wordsV mm)/\(w.setCell ⟨C.kr,j,none⟩ u).ownsRow w0.heap.size 56 1 (.slice (some ⟨C.gr,0,none⟩) 25 25) 25 (wordsV regs)/\
  (w.setCell ⟨C.kr,j,none⟩ u).ownsRow w0.heap.size 103 2 vl leaks.length (leaksV leaks)/\Below w0.heap.size w0 (w.setCell ⟨C.kr,j,none⟩ u):=
 ⟨set_blk_ne _ _ h.nc,set_blk_ne _ _ h.nx,own_set_ne h.mo h.rb (by decide) u,own_set_ne h.ro h.rb (by decide) u,own_set_ne h.lo h.rb (by decide) u,below_set h.b h.hr⟩
theorem RW.step (h:RW w0 w C regs mm leaks vl steps)(n:Int):RW w0 (w.setCell ⟨C.kr,3,none⟩ (.int .i64 n)) C regs mm leaks vl n:=by
 obtain⟨f1,f2,f3,f4,f5,f6⟩:=h.field 3 (.int .i64 n)
 exact⟨f1.trans h.cb,f2.trans h.xb,by simpa using set_blk h.rb 3 (.int .i64 n),f3,f4,f5,f6,h.ne,h.nx,h.nc,h.hr,h.hx⟩
theorem RW.reg (h:RW w0 w C regs mm leaks vl steps)(j:Nat)(x:Int):RW w0 (w.setCell ⟨C.gr,j,none⟩ (.int .u64 x)) C (regs.set j x) mm leaks vl steps:=by
 obtain⟨n1,n2,n3,n4,n5,n6⟩:=h.kc_ne
 obtain⟨c,hc⟩:=own_type h.ro rfl
 exact⟨by rw [set_blk_ne _ _ n1];exact h.cb,by rw [set_blk_ne _ _ n3];exact h.xb,by rw [set_blk_ne _ _ n5];exact h.rb,own_of h.mo fun k hk=>set_blk_ne _ _ (by cases hk;exact h.ne),(word_set h.ro j x).1,own_set_ne h.lo hc (by decide) _,below_set h.b (word_set h.ro j x).2,h.ne,h.nx,h.nc,h.hr,h.hx⟩
theorem RW.word (h:RW w0 w C regs mm leaks vl steps)(j:Nat)(x:Int):RW w0 (w.setCell ⟨C.gm,j,none⟩ (.int .u64 x)) C regs (mm.set j x) leaks vl steps:=by
 obtain⟨n1,n2,n3,n4,n5,n6⟩:=h.kc_ne
 obtain⟨c,hc⟩:=own_type h.mo rfl
 exact⟨by rw [set_blk_ne _ _ n2];exact h.cb,by rw [set_blk_ne _ _ n4];exact h.xb,by rw [set_blk_ne _ _ n6];exact h.rb,(word_set h.mo j x).1,own_of h.ro fun k hk=>set_blk_ne _ _ (by cases hk;exact Ne.symm h.ne),own_set_ne h.lo hc (by decide) _,below_set h.b (word_set h.mo j x).2,h.ne,h.nx,h.nc,h.hr,h.hx⟩
theorem RW.cells (h:RW w0 w C regs mm leaks vl steps):w.cell? ⟨C.kc,0,none⟩=some (.slice C.ia C.c.length C.ic)/\w.cell? ⟨C.kc,1,none⟩=some (.int .i64 24)/\w.cell? ⟨C.kc,2,none⟩=some (.int .i64 C.mem)/\
  w.cell? ⟨C.kr,0,none⟩=some (.int .i64 0)/\w.cell? ⟨C.kr,1,none⟩=some (.slice (some ⟨C.gm,0,none⟩) C.mem C.mcap)/\w.cell? ⟨C.kr,2,none⟩=some vl/\w.cell? ⟨C.kr,3,none⟩=some (.int .i64 steps)/\w.cell? ⟨C.kr,4,none⟩=some (.int .i64 (-1)):=
 ⟨(cell_blk h.cb _).trans rfl,(cell_blk h.cb _).trans rfl,(cell_blk h.cb _).trans rfl,(cell_blk h.rb _).trans rfl,(cell_blk h.rb _).trans rfl,(cell_blk h.rb _).trans rfl,(cell_blk h.rb _).trans rfl,(cell_blk h.rb _).trans rfl⟩
end
open Go.Proofs.YtkplfaionpplaaaGreatDoorW.PrintLast Go.Proofs.YtkplfaionpplaaaGreatDoorW.PrintWords
theorem words_valid {w:World}{base ic:Nat}{ia:Option Addr}{M:Int}{L:List Al.Inst}(h:w.ownsRow base 97 6 (.slice ia L.length ic) L.length (instsV L))(hok:∀ i∈L,Al.okI L.length i)(hL:L.length<=262144)(hM:0<=M/\M<=65536):
  Calls Tryz.prog 25 #[.agg #[.slice ia L.length ic,.int .i64 24,.int .i64 M]] w fun e w'=>e= .returned Value.nilIface/\Below w.heap.size w w':=by
 obtain⟨W,hW⟩:∃ W,W=w.alloc (.cells #[.slice ia L.length ic,.int .i64 24,.int .i64 M] 41):=⟨_,rfl⟩
 obtain⟨kc,hkc⟩:∃ kc,kc=w.heap.size:=⟨_,rfl⟩
 have hb0:Below w.heap.size w W:=by rw [hW];exact (Below.refl _ _).alloc (Nat.le_refl _) _
 have bc:W.heap[kc]?=some (.cells #[.slice ia L.length ic,.int .i64 24,.int .i64 M] 41 (0,0)):=by rw [hW,hkc];exact heap_alloc_new w _
 have c0:W.cell? ⟨kc,0,none⟩=some (.slice ia L.length ic):=(cell_blk bc _).trans rfl
 have c1:W.cell? ⟨kc,1,none⟩=some (.int .i64 24):=(cell_blk bc _).trans rfl
 have c2:W.cell? ⟨kc,2,none⟩=some (.int .i64 M):=(cell_blk bc _).trans rfl
 have z1:decide ((262144:Int)<(L.length:Int))=false:=decide_eq_false (by omega)
 have z2:decide (M<0)=false:=decide_eq_false (by omega)
 have z3:decide (65536<M)=false:=decide_eq_false (by omega)
 have H:=Lib.hid h
 go_enter Tryz.func25,Tryz.ntmps25
 go_upto_region 1 with (fail)
 rw [<-hW]
 simp only [<-hkc]
 replace hkc:=Lib.hid hkc
 clear hW h
 have HW:Hid (W.heap[kc]?=some (.cells #[.slice ia L.length ic,.int .i64 24,.int .i64 M] 41 (0,0))/\Below w.heap.size w W):=Lib.hid ⟨bc,hb0⟩
 clear bc hb0
 go_wp2_with fail
 clear c0 c1 c2
 go_loopg [3,4,5,35] (L.length+1) (fun gk v3 v4 v5 v35 w'=>∃ j:Nat,v35= .int .i64 j/\j+gk=L.length+1/\j<=L.length/\Hid (w'.heap[kc]?=some (.cells #[.slice ia L.length ic,.int .i64 24,.int .i64 M] 41 (0,0))/\Below w.heap.size w w'))
 case atStart=>exact⟨0,rfl,by omega,by omega,HW⟩
 case round=>
  obtain⟨j,rfl,hg,hj2,HR⟩:=hrel
  obtain⟨bc,hb⟩:=show wr.heap[kc]?=some (.cells #[.slice ia L.length ic,.int .i64 24,.int .i64 M] 41 (0,0))/\Below w.heap.size w wr from HR
  clear HW HR
  by_cases hj:j<L.length
  ·obtain⟨g1,rfl⟩:∃ g1,gk=g1+1:=⟨gk - 1,by omega⟩
   have hi:=hok _ (List.getElem_mem hj)
   obtain⟨g,hia,d0,d1,d2,d3,d4,d5⟩:=insts_get (show w.ownsRow base 97 6 (.slice ia L.length ic) L.length (instsV L) from H) hj
   replace d0:=cell_since hb d0
   replace d1:=cell_since hb d1
   replace d2:=cell_since hb d2
   replace d3:=cell_since hb d3
   replace d4:=cell_since hb d4
   replace d5:=cell_since hb d5
   obtain⟨x,hie⟩:∃ x,x=L[j]:=⟨_,rfl⟩
   rw [<-hie] at hi d0 d1 d2 d3 d4 d5
   clear hie
   obtain⟨op,d,a,b,c,k⟩:=x
   dsimp only at d0 d1 d2 d3 d4 d5
   have HO:=fun w0=>words_one w0 (Ca:=ia) (cc:=ic) (M:=M) hi (by omega)
   have v0:=fun o=>(cell_blk (alloc_blk (w:=wr) o bc) 0).trans rfl
   have v1:=fun o=>(cell_blk (alloc_blk (w:=wr) o bc) 1).trans rfl
   have v2:=fun o=>(cell_blk (alloc_blk (w:=wr) o bc) 2).trans rfl
   have HB:=fun o=>hb.alloc hb.size o
   have HC:=fun o=>alloc_blk (w:=wr) o bc
   have r0:(0:Int)<=(j:Int):=by omega
   have r1:(j:Int)<(L.length:Int):=by omega
   have r2:decide ((j:Int)<(L.length:Int))=true:=decide_eq_true r1
   subst hia
   clear hi bc hb
   go_wp2_with (first|(go_at_call 60;refine (HO _).mono ?_;rintro e w2 ⟨rfl,hb2⟩;have hb3:=(HB _).trans (lower_below hb2 (HB _).size);have bc3:=below_blk hb2 (HC _) (blk_lt (HC _))))
   have HN:Hid (w2.heap[kc]?=some (.cells #[.slice (some ⟨g,0,none⟩) L.length ic,.int .i64 24,.int .i64 M] 41 (0,0))/\Below w.heap.size w w2):=Lib.hid ⟨bc3,hb3⟩
   clear bc3 hb3 hb2 d0 d1 d2 d3 d4 d5 v0 v1 v2 HB HC HO
   go_roundg g1
   case measure=>omega
   case rel=>exact⟨j+1,by simp,by omega,by omega,HN⟩
  ·have hje:j=L.length:=by omega
   have t1:decide ((j:Int)<(L.length:Int))=false:=by simp;omega
   clear bc
   go_wp2_with fail
   exact bodyPost_ret (v:=Value.nilIface) (by simp [results,Tryz.results25,go_sem]) rfl ⟨rfl,hb⟩
theorem ErrAt.keep {w w':World}{A:Nat->Addr}{f:Al.Fault}{v:Value}(h:ErrAt w A f v)(hk:∀ (k:Nat) (c:Array Value),w.heap[k]?=some (.cells c 127 (0,0))->w'.heap[k]?=w.heap[k]?):ErrAt w' A f v:=by
 rcases h with h|h|⟨g,i,k,h1,h2,h3,h4⟩
 ·exact .inl h
 ·exact .inr (.inl h)
 ·exact .inr (.inr ⟨g,i,k,h1,h2,h3,(hk k _ h4).trans h4⟩)
theorem lower_no {w:World}{A:Nat->Addr}(S:Sent w A){p:Al.Prog}(hvl0:p.vars.length<=1000)(hfl:(Al.flatL p.body).length<=100){Va Ab:Option Addr}{vc cb:Nat}(hp:PLies w p Va Ab vc cb)(hF:(Al.checkF p).code≠0):
  Calls Tryz.prog 10 #[progV p Va Ab vc cb] w fun e w'=>∃ v,e= .returned (.tuple #[.agg #[.slice none 0 0,.int .i64 0,.int .i64 0],.slice none 0 0,v])/\ErrAt w' A (Al.checkF p) v/\Below w.heap.size w w':=by
 obtain⟨W,hW⟩:∃ W,W=(w.alloc (.cells #[.int .i64 p.q,.int .i64 p.n,.slice Va p.vars.length vc,.slice Ab p.body.length cb] 27)).alloc (.cells #[.slice none 0 0,.int .i64 0,.int .i64 0] 41):=⟨_,rfl⟩
 obtain⟨kp,hkp⟩:∃ kp,kp=w.heap.size:=⟨_,rfl⟩
 obtain⟨kr,hkr⟩:∃ kr,kr=kp+1:=⟨_,rfl⟩
 have hb0:Below w.heap.size w W:=by rw [hW];exact alloc_two _ _ _
 have r0:W.heap[kr]?=some (.cells #[.slice none 0 0,.int .i64 0,.int .i64 0] 41 (0,0)):=by rw [hW,hkr,hkp];exact alloc_at _ _ _
 have P0:PBox W kp p Va Ab vc cb:=by rw [hW,hkp];exact alloc_blk _ (heap_alloc_new w _)
 have hkw:w.heap.size<=kr:=by omega
 have HC:=sec_check_x (S.below hb0) hvl0 hfl (hp.below hb0)
 unfold progV at HC
 go_enter Tryz.func10,Tryz.ntmps10
 unfold progV
 go_wp2_with fail
 rw [<-hW]
 simp only [<-hkp,<-hkr]
 obtain⟨p0,p1,p2,p3⟩:=P0.cells
 replace hkp:=Lib.hid hkp
 replace hkr:=Lib.hid hkr
 clear hW
 go_wp2_with (first|(go_at_call 36;refine HC.mono ?_;rintro e w1 ⟨v,rfl,hE1,hb1⟩;obtain⟨t,a,rfl,ht⟩:=hE1.held hF;replace hE1:=Lib.hid hE1;have r1:=below_blk hb1 r0 (blk_lt r0);have hb2:=hb0.trans (lower_below hb1 hb0.size);have f0:=frozen_blk r1 0;have f1:=frozen_blk r1 1;have f2:=frozen_blk r1 2;have s0:w1.cell? ⟨kr,0,none⟩=some (.slice none 0 0):=(cell_blk r1 _).trans rfl;have s1:w1.cell? ⟨kr,1,none⟩=some (.int .i64 0):=(cell_blk r1 _).trans rfl;have s2:w1.cell? ⟨kr,2,none⟩=some (.int .i64 0):=(cell_blk r1 _).trans rfl))
 have hE3:=ErrAt.keep (show ErrAt w1 A _ _ from hE1) (w':=((w1.setCell ⟨kr,0,none⟩ (.slice none 0 0)).setCell ⟨kr,1,none⟩ (.int .i64 0)).setCell ⟨kr,2,none⟩ (.int .i64 0)) (fun k c hk=>by
  have hn:k≠kr:=fun e=>by rw [e,r1] at hk;cases hk
  rw [set_blk_ne _ _ hn,set_blk_ne _ _ hn,set_blk_ne _ _ hn])
 refine gen_world (Q:=fun W=>bodyPost _ _ _ _ _ W) _ (fun W=>W.heap[kr]?=some (.cells #[.slice none 0 0,.int .i64 0,.int .i64 0] 41 (0,0))/\ErrAt W A (Al.checkF p) (.iface t (.pointer (some a)))/\Below w.heap.size w W) ⟨set3 r1 _ _ _,hE3,below_set3 hb2 hkw⟩ ?_
 rintro W9 ⟨b9,hE9,hb9⟩
 have z0:W9.cell? ⟨kr,0,none⟩=some (.slice none 0 0):=(cell_blk b9 _).trans rfl
 have z1:W9.cell? ⟨kr,1,none⟩=some (.int .i64 0):=(cell_blk b9 _).trans rfl
 have z2:W9.cell? ⟨kr,2,none⟩=some (.int .i64 0):=(cell_blk b9 _).trans rfl
 exact bodyPost_ret (v:= .tuple #[.agg #[.slice none 0 0,.int .i64 0,.int .i64 0],.slice none 0 0,.iface t (.pointer (some a))]) (by simp [results,Tryz.results10,go_sem,z0,z1,z2]) rfl ⟨_,rfl,hE9,hb9⟩
theorem lower_fine_x {w:World}{A:Nat->Addr}(S:Sent w A){p:Al.Prog}(hF:Al.Fine p){Va Ab:Option Addr}{vc cb:Nat}(hp:PLies w p Va Ab vc cb):
  Calls Tryz.prog 10 #[progV p Va Ab vc cb] w fun e w'=>∃ vi vs,e= .returned (.tuple #[.agg #[vi,.int .i64 24,.int .i64 (envP p).mem],vs,Value.nilIface])/\
   w'.ownsRow w.heap.size 97 6 vi (codeP p).length (instsV (Al.insts (codeP p)))/\w'.ownsRow w.heap.size 108 2 vs (codeP p).length (spansV (Al.spansOf (codeP p)))/\Below w.heap.size w w':=by
 have hl:lenP p<=6004:=by
  have h1:=Al.genL_le (envP p) 0 0 p.body 0 (Al.bodyP p.body)
  have h2:=hF.flat
  have h3:Al.bodyP p.body<=4:=by unfold Al.bodyP;split<;> omega
  unfold lenP;omega
 have HL:=lower_any (ready_of hF Va Ab vc cb) (capb:=cb) (body:=p.body) rfl hp.cap hp.b (Al.good_prog hF _) (by unfold lenP at hl;omega) (fun w1 hb=>(sec_check_x (S.below hb) (by have:=hF.vars;omega) hF.flat (hp.below hb)).mono (by rintro e w2 ⟨v,rfl,hE,hb2⟩;obtain rfl:=hE.nil (by rw [hF.check];rfl);exact⟨rfl,hb2⟩))
 refine HL.mono ?_
 rintro e w' ⟨vi,vs,rfl,⟨b,ho,hs,h1,h2⟩,hb⟩
 have e1:b.out=Al.insts (codeP p):=ho
 have e2:b.spans=Al.spansOf (codeP p):=by
  rw [hs,<-Al.end_spans (envP p) p.body 0 0]
  unfold codeP
  rw [<-Al.end_spans (envP p) p.body _ _]
 rw [e1] at h1
 rw [e2] at h2
 have l1:(Al.insts (codeP p)).length=(codeP p).length:=by simp [Al.insts]
 have l2:(Al.spansOf (codeP p)).length=(codeP p).length:=by simp [Al.spansOf]
 rw [l1] at h1
 rw [l2] at h2
 exact⟨vi,vs,rfl,h1,h2,hb⟩
end Go.Proofs.YtkplfaionpplaaaGreatDoor
