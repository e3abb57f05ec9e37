/- Part 23: B72, B73, B74. -/
import Derived.Test.YtkplfaionpplaaaGreatDoorK22
set_option maxRecDepth 100000
set_option maxHeartbeats 6400000
set_option linter.unusedVariables false
set_option linter.unusedSimpArgs false
namespace Go.Proofs.YtkplfaionpplaaaGreatDoor
open Go.RowKit Go.Proofs.YtkplfaionpplaaaGreatDoorW.PrintLast
theorem ref_scale {w:World}{q:Int}{n:Nat}{A:Option Addr}{f:Nat->Int}(ca:Nat)(hf:Vec w A n f)(bf:∀ j,j<n->0<=f j/\f j<q)(hq:17<=q/\q<=8380417)(hn:n<=256){k:Int}(hk:0<=k/\k<q):Calls Tryz.prog 99 #[.agg #[.int .i64 q,.int .i64 n],.slice A n ca,.int .i64 k] w fun e w'=>∃ v,e= .returned v/\w'.ownsRow w.heap.size 3 1 v n (vecV n fun j=>f j * k % q)/\Below w.heap.size w w':=by
 obtain⟨a,rfl,hf⟩:=hf
 obtain⟨W,hW⟩:∃ W,W=w.alloc (.cells #[.int .i64 q,.int .i64 n] 23):=⟨_,rfl⟩
 obtain⟨kq,hkq⟩:∃ kq,kq=w.heap.size:=⟨_,rfl⟩
 have HH:Hid (W.ownsRow w.heap.size 3 1 (.slice none 0 0) 0 (vecV 0 fun j=>f j * k % q)/\Below w.heap.size w W/\W.heap[kq]?=some (.cells #[.int .i64 q,.int .i64 n] 23 (0,0))):=by
  rw [hW,hkq];exact Lib.hid ⟨World.ownsRow_nil _ _ _ _,(Below.refl _ _).alloc (Nat.le_refl _) _,heap_alloc_new w _⟩
 have HF:=Lib.hid hf
 have BF:=Lib.hid bf
 clear hf bf
 have R0:=HH.out.2.2
 have q0:W.cell? ⟨kq,0,none⟩=some (.int .i64 q):=(cell_blk R0 _).trans rfl
 have HM:=ref_mod W (a:=k) (q:=q) (by omega) (by omega)
 rw [Int.emod_eq_of_lt hk.1 hk.2] at HM
 clear R0
 go_enter Tryz.func99,Tryz.ntmps99
 go_wp2_with fail
 rw [<-hW]
 simp only [<-hkq]
 replace hkq:=Lib.hid hkq
 clear hW
 go_wp2_with (first|(go_at_call 136;refine HM.mono ?_;rintro e w2 ⟨rfl,rfl⟩))
 clear HM q0
 go_loopg [8,9] (n+1) (fun gk vo vi w'=>∃ i:Nat,vi= .int .i64 i/\i+gk=n+1/\i<=n/\Hid (w'.ownsRow w.heap.size 3 1 vo i (vecV i fun j=>f j * k % q)/\Below w.heap.size w w'/\w'.heap[kq]?=some (.cells #[.int .i64 q,.int .i64 n] 23 (0,0))))
 case atStart=>exact⟨0,rfl,by omega,by omega,HH⟩
 case round=>
  obtain⟨i,rfl,hg,hi2,HR⟩:=hrel
  obtain⟨hown,hR,hq0⟩:=show wr.ownsRow w.heap.size 3 1 u8 i (vecV i fun j=>f j * k % q)/\Below w.heap.size w wr/\wr.heap[kq]?=some (.cells #[.int .i64 q,.int .i64 n] 23 (0,0)) from HR
  clear HH HR
  have q0:wr.cell? ⟨kq,0,none⟩=some (.int .i64 q):=(cell_blk hq0 _).trans rfl
  have q1:wr.cell? ⟨kq,1,none⟩=some (.int .i64 n):=(cell_blk hq0 _).trans rfl
  by_cases hil:i<n
  ·obtain⟨k1,rfl⟩:∃ k1,gk=k1+1:=⟨gk - 1,by omega⟩
   have r0:(0:Int)<=(i:Int):=by omega
   have r1:(i:Int)<(n:Int):=by omega
   have r2:decide ((i:Int)<(n:Int))=true:=decide_eq_true r1
   have D0:=(show ∀ j,j<n->w.cell? (a.add j)=some (.int .i64 (f j)) from HF) i hil
   obtain⟨f0,f1⟩:=(show ∀ j,j<n->0<=f j/\f j<q from BF) i hil
   have d0:=cell_since hR D0
   go_wp2_with fail
   go_region_held3 (fun w'=>w'.cell? (a.add i)=some (.int .i64 (f i))/\w'.cell? ⟨kq,0,none⟩=some (.int .i64 q)) (refine⟨?_,?_⟩<;> first|assumption|(refine alloc_cell _ ?_;assumption)) (first
    |(go_at_call 135;refine (ref_mul _ (show 0<=f i/\f i<q from⟨f0,f1⟩) (show 0<=k/\k<q from⟨hk.1,hk.2⟩) hq.2).mono ?_;rintro e w2 ⟨rfl,rfl⟩)
    |((refine step_int (by rfl) (.tmp 20) (.tmp 29) (by rfl) (x:=f i * k % q) (by rfl) hown hR (by rfl) (by omega) ?_);intro gg cap W1 hown1 hb1 hk1;have q0':=hk1 _ (by decide) _ _ hq0;have d0:=cell_since hb1 D0;have q0:W1.cell? ⟨kq,0,none⟩=some (.int .i64 q):=(cell_blk q0' _).trans rfl;have q1:W1.cell? ⟨kq,1,none⟩=some (.int .i64 n):=(cell_blk q0' _).trans rfl;have HN:Hid (W1.ownsRow w.heap.size 3 1 (.slice (some ⟨gg,0,none⟩) (i+1) cap) (i+1) (vecV (i+1) fun j=>f j * k % q)/\Below w.heap.size w W1/\W1.heap[kq]?=some (.cells #[.int .i64 q,.int .i64 n] 23 (0,0))):=Lib.hid ⟨by rw [vecV_succ];exact hown1,hb1,q0'⟩;clear hown1 hb1 hk1 q0' hown hR hq0))
   clear d0 D0 q0 q1
   go_wp2_with fail
   go_roundg k1
   case measure=>omega
   case rel=>exact⟨i+1,by simp,by omega,by omega,HN⟩
  ·have hie:i=n:=by omega
   have t1:decide ((i:Int)<(n:Int))=false:=by simp;omega
   rw [hie] at hown
   go_wp2_with fail
   exact bodyPost_ret (v:=u8) (by simp [results,Tryz.results99,go_sem]) rfl ⟨_,rfl,hown,hR⟩
theorem ref_down {w:World}{q:Int}{n K:Nat}{A:Option Addr}{f:Nat->Int}(ca:Nat)(hf:Vec w A n f)(bf:∀ j,j<n->0<=f j/\f j<q)(hq:17<=q/\q<=8380417)(hn:n<=256)(hK:1<=K/\K<=22):Calls Tryz.prog 101 #[.agg #[.int .i64 q,.int .i64 n],.int .i64 K,.slice A n ca] w fun e w'=>∃ v,e= .returned v/\w'.ownsRow w.heap.size 3 1 v n (vecV n fun j=>(f j * 2 ^ K+(q - 1) / 2) / q % 2 ^ K)/\Below w.heap.size w w':=by
 obtain⟨a,rfl,hf⟩:=hf
 obtain⟨W,hW⟩:∃ W,W=w.alloc (.cells #[.int .i64 q,.int .i64 n] 23):=⟨_,rfl⟩
 obtain⟨kq,hkq⟩:∃ kq,kq=w.heap.size:=⟨_,rfl⟩
 have HH:Hid (W.ownsRow w.heap.size 3 1 (.slice none 0 0) 0 (vecV 0 fun j=>(f j * 2 ^ K+(q - 1) / 2) / q % 2 ^ K)/\Below w.heap.size w W/\W.heap[kq]?=some (.cells #[.int .i64 q,.int .i64 n] 23 (0,0))):=by
  rw [hW,hkq];exact Lib.hid ⟨World.ownsRow_nil _ _ _ _,(Below.refl _ _).alloc (Nat.le_refl _) _,heap_alloc_new w _⟩
 have HF:=Lib.hid hf
 have BF:=Lib.hid bf
 clear hf bf
 go_enter Tryz.func101,Tryz.ntmps101
 go_wp2_with fail
 rw [<-hW]
 simp only [<-hkq]
 replace hkq:=Lib.hid hkq
 clear hW
 go_loopg [7,8] (n+1) (fun gk vo vi w'=>∃ i:Nat,vi= .int .i64 i/\i+gk=n+1/\i<=n/\Hid (w'.ownsRow w.heap.size 3 1 vo i (vecV i fun j=>(f j * 2 ^ K+(q - 1) / 2) / q % 2 ^ K)/\Below w.heap.size w w'/\w'.heap[kq]?=some (.cells #[.int .i64 q,.int .i64 n] 23 (0,0))))
 case atStart=>exact⟨0,rfl,by omega,by omega,HH⟩
 case round=>
  obtain⟨i,rfl,hg,hi2,HR⟩:=hrel
  obtain⟨hown,hR,hq0⟩:=show wr.ownsRow w.heap.size 3 1 u7 i (vecV i fun j=>(f j * 2 ^ K+(q - 1) / 2) / q % 2 ^ K)/\Below w.heap.size w wr/\wr.heap[kq]?=some (.cells #[.int .i64 q,.int .i64 n] 23 (0,0)) from HR
  clear HH HR
  have q0:wr.cell? ⟨kq,0,none⟩=some (.int .i64 q):=(cell_blk hq0 _).trans rfl
  have q1:wr.cell? ⟨kq,1,none⟩=some (.int .i64 n):=(cell_blk hq0 _).trans rfl
  by_cases hil:i<n
  ·obtain⟨k1,rfl⟩:∃ k1,gk=k1+1:=⟨gk - 1,by omega⟩
   have r0:(0:Int)<=(i:Int):=by omega
   have r1:(i:Int)<(n:Int):=by omega
   have r2:decide ((i:Int)<(n:Int))=true:=decide_eq_true r1
   have D0:=(show ∀ j,j<n->w.cell? (a.add j)=some (.int .i64 (f j)) from HF) i hil
   obtain⟨f0,f1⟩:=(show ∀ j,j<n->0<=f j/\f j<q from BF) i hil
   have d0:=cell_since hR D0
   go_wp2_with fail
   go_region_held3 (fun w'=>w'.cell? (a.add i)=some (.int .i64 (f i))/\w'.cell? ⟨kq,0,none⟩=some (.int .i64 q)) (refine⟨?_,?_⟩<;> first|assumption|(refine alloc_cell _ ?_;assumption)) (first
    |(go_at_call 137;refine (ref_down1 _ (show 0<=f i/\f i<q from⟨f0,f1⟩) hq hK.2).mono ?_;rintro e w2 ⟨rfl,rfl⟩)
    |((refine step_int (by rfl) (.tmp 15) (.tmp 24) (by rfl) (x:=(f i * 2 ^ K+(q - 1) / 2) / q % 2 ^ K) (by rfl) hown hR (by rfl) (by omega) ?_);intro gg cap W1 hown1 hb1 hk1;have q0':=hk1 _ (by decide) _ _ hq0;have d0:=cell_since hb1 D0;have q0:W1.cell? ⟨kq,0,none⟩=some (.int .i64 q):=(cell_blk q0' _).trans rfl;have q1:W1.cell? ⟨kq,1,none⟩=some (.int .i64 n):=(cell_blk q0' _).trans rfl;have HN:Hid (W1.ownsRow w.heap.size 3 1 (.slice (some ⟨gg,0,none⟩) (i+1) cap) (i+1) (vecV (i+1) fun j=>(f j * 2 ^ K+(q - 1) / 2) / q % 2 ^ K)/\Below w.heap.size w W1/\W1.heap[kq]?=some (.cells #[.int .i64 q,.int .i64 n] 23 (0,0))):=Lib.hid ⟨by rw [vecV_succ];exact hown1,hb1,q0'⟩;clear hown1 hb1 hk1 q0' hown hR hq0))
   clear d0 D0 q0 q1
   go_wp2_with fail
   go_roundg k1
   case measure=>omega
   case rel=>exact⟨i+1,by simp,by omega,by omega,HN⟩
  ·have hie:i=n:=by omega
   have t1:decide ((i:Int)<(n:Int))=false:=by simp;omega
   rw [hie] at hown
   go_wp2_with fail
   exact bodyPost_ret (v:=u7) (by simp [results,Tryz.results101,go_sem]) rfl ⟨_,rfl,hown,hR⟩
theorem ref_up {w:World}{q:Int}{n K:Nat}{A:Option Addr}{f:Nat->Int}(ca:Nat)(hf:Vec w A n f)(bf:∀ j,j<n->0<=f j/\f j<2 ^ K)(hq:17<=q/\q<=8380417)(hn:n<=256)(hK:1<=K/\K<=22):Calls Tryz.prog 102 #[.agg #[.int .i64 q,.int .i64 n],.int .i64 K,.slice A n ca] w fun e w'=>∃ v,e= .returned v/\w'.ownsRow w.heap.size 3 1 v n (vecV n fun j=>(q * f j+2 ^ (K - 1)) / 2 ^ K)/\Below w.heap.size w w':=by
 obtain⟨a,rfl,hf⟩:=hf
 obtain⟨W,hW⟩:∃ W,W=w.alloc (.cells #[.int .i64 q,.int .i64 n] 23):=⟨_,rfl⟩
 obtain⟨kq,hkq⟩:∃ kq,kq=w.heap.size:=⟨_,rfl⟩
 have HH:Hid (W.ownsRow w.heap.size 3 1 (.slice none 0 0) 0 (vecV 0 fun j=>(q * f j+2 ^ (K - 1)) / 2 ^ K)/\Below w.heap.size w W/\W.heap[kq]?=some (.cells #[.int .i64 q,.int .i64 n] 23 (0,0))):=by
  rw [hW,hkq];exact Lib.hid ⟨World.ownsRow_nil _ _ _ _,(Below.refl _ _).alloc (Nat.le_refl _) _,heap_alloc_new w _⟩
 have HF:=Lib.hid hf
 have BF:=Lib.hid bf
 clear hf bf
 go_enter Tryz.func102,Tryz.ntmps102
 go_wp2_with fail
 rw [<-hW]
 simp only [<-hkq]
 replace hkq:=Lib.hid hkq
 clear hW
 go_loopg [7,8] (n+1) (fun gk vo vi w'=>∃ i:Nat,vi= .int .i64 i/\i+gk=n+1/\i<=n/\Hid (w'.ownsRow w.heap.size 3 1 vo i (vecV i fun j=>(q * f j+2 ^ (K - 1)) / 2 ^ K)/\Below w.heap.size w w'/\w'.heap[kq]?=some (.cells #[.int .i64 q,.int .i64 n] 23 (0,0))))
 case atStart=>exact⟨0,rfl,by omega,by omega,HH⟩
 case round=>
  obtain⟨i,rfl,hg,hi2,HR⟩:=hrel
  obtain⟨hown,hR,hq0⟩:=show wr.ownsRow w.heap.size 3 1 u7 i (vecV i fun j=>(q * f j+2 ^ (K - 1)) / 2 ^ K)/\Below w.heap.size w wr/\wr.heap[kq]?=some (.cells #[.int .i64 q,.int .i64 n] 23 (0,0)) from HR
  clear HH HR
  have q0:wr.cell? ⟨kq,0,none⟩=some (.int .i64 q):=(cell_blk hq0 _).trans rfl
  have q1:wr.cell? ⟨kq,1,none⟩=some (.int .i64 n):=(cell_blk hq0 _).trans rfl
  by_cases hil:i<n
  ·obtain⟨k1,rfl⟩:∃ k1,gk=k1+1:=⟨gk - 1,by omega⟩
   have r0:(0:Int)<=(i:Int):=by omega
   have r1:(i:Int)<(n:Int):=by omega
   have r2:decide ((i:Int)<(n:Int))=true:=decide_eq_true r1
   have D0:=(show ∀ j,j<n->w.cell? (a.add j)=some (.int .i64 (f j)) from HF) i hil
   obtain⟨f0,f1⟩:=(show ∀ j,j<n->0<=f j/\f j<2 ^ K from BF) i hil
   have d0:=cell_since hR D0
   go_wp2_with fail
   go_region_held3 (fun w'=>w'.cell? (a.add i)=some (.int .i64 (f i))/\w'.cell? ⟨kq,0,none⟩=some (.int .i64 q)) (refine⟨?_,?_⟩<;> first|assumption|(refine alloc_cell _ ?_;assumption)) (first
    |(go_at_call 138;refine (ref_up1 _ (show 0<=f i/\f i<2 ^ K from⟨f0,f1⟩) hq hK).mono ?_;rintro e w2 ⟨rfl,rfl⟩)
    |((refine step_int (by rfl) (.tmp 15) (.tmp 24) (by rfl) (x:=(q * f i+2 ^ (K - 1)) / 2 ^ K) (by rfl) hown hR (by rfl) (by omega) ?_);intro gg cap W1 hown1 hb1 hk1;have q0':=hk1 _ (by decide) _ _ hq0;have d0:=cell_since hb1 D0;have q0:W1.cell? ⟨kq,0,none⟩=some (.int .i64 q):=(cell_blk q0' _).trans rfl;have q1:W1.cell? ⟨kq,1,none⟩=some (.int .i64 n):=(cell_blk q0' _).trans rfl;have HN:Hid (W1.ownsRow w.heap.size 3 1 (.slice (some ⟨gg,0,none⟩) (i+1) cap) (i+1) (vecV (i+1) fun j=>(q * f j+2 ^ (K - 1)) / 2 ^ K)/\Below w.heap.size w W1/\W1.heap[kq]?=some (.cells #[.int .i64 q,.int .i64 n] 23 (0,0))):=Lib.hid ⟨by rw [vecV_succ];exact hown1,hb1,q0'⟩;clear hown1 hb1 hk1 q0' hown hR hq0))
   clear d0 D0 q0 q1
   go_wp2_with fail
   go_roundg k1
   case measure=>omega
   case rel=>exact⟨i+1,by simp,by omega,by omega,HN⟩
  ·have hie:i=n:=by omega
   have t1:decide ((i:Int)<(n:Int))=false:=by simp;omega
   rw [hie] at hown
   go_wp2_with fail
   exact bodyPost_ret (v:=u7) (by simp [results,Tryz.results102,go_sem]) rfl ⟨_,rfl,hown,hR⟩
theorem ref_ints {w:World}{n:Nat}{A:Option Addr}{f:Nat->Int}(ca:Nat)(hf:Vec w A n f)(hn:n<=256):Calls Tryz.prog 34 #[.slice A n ca] w fun e w'=>∃ v,e= .returned v/\w'.ownsRow w.heap.size 3 1 v n (vecV n f)/\Below w.heap.size w w':=by
 obtain⟨a,rfl,hf⟩:=hf
 obtain⟨j0,hj0,jz0,jz1,jz2⟩:=info_parts Tryz.infoInt
 have HF:=Lib.hid hf
 clear hf
 go_enter Tryz.func34,Tryz.ntmps34
 go_wp2_with (first
  |(at_make;refine wpList_make_own _ rfl _ _ 86 rfl w.heap.size 3 j0 (.int .i64 0) 1 Tryz.underlying86 hj0 jz0 jz1 .i64 .i64 _ n rfl rfl rfl (by rw [jz2];omega) (by unfold maxLen;omega) (Nat.le_refl _) ?_;intro w1 hown1 hgrow1))
 have HH:Hid (w1.ownsRow w.heap.size 3 1 (.slice (some ⟨w.heap.size,0,none⟩) 0 n) 0 (vecV 0 f)/\Below w.heap.size w w1):=Lib.hid ⟨hown1,below_grown0 hgrow1⟩
 clear hown1 hgrow1
 go_loopg [3,4] (n+1) (fun gk v3 v4 w'=>∃ i:Nat,v4= .int .i64 i/\i+gk=n+1/\i<=n/\Hid (w'.ownsRow w.heap.size 3 1 v3 i (vecV i f)/\Below w.heap.size w w'))
 case atStart=>exact⟨0,rfl,by omega,by omega,HH⟩
 case round=>
  obtain⟨i,rfl,hg,hi2,HR⟩:=hrel
  obtain⟨hown,hR⟩:=show wr.ownsRow w.heap.size 3 1 u3 i (vecV i f)/\Below w.heap.size w wr from HR
  clear HH HR
  by_cases hil:i<n
  ·obtain⟨k1,rfl⟩:∃ k1,gk=k1+1:=⟨gk - 1,by omega⟩
   have d0:=cell_since hR ((show ∀ j,j<n->w.cell? (a.add j)=some (.int .i64 (f j)) from HF) i hil)
   have r0:(0:Int)<=(i:Int):=by omega
   have r1:(i:Int)<(n:Int):=by omega
   have r2:decide ((i:Int)<(n:Int))=true:=decide_eq_true r1
   have own1:=hown.alloc (.cells #[.int .i64 (f i)] 3)
   have src1:=row_one wr hR.size (.int .i64 (f i)) 3
   have bl1:Below w.heap.size w (wr.alloc (.cells #[.int .i64 (f i)] 3)):=hR.alloc hR.size _
   go_wp2_with (first
    |(at_builtin;(refine append_row rfl (.tmp 14) (.tmp 19) 86 rfl w.heap.size 3 j0 _ 1 8 Tryz.underlying86 hj0 jz0 jz1 jz2 rfl (by omega) _ _ _ rfl own1 w.heap.size _ _ _ rfl src1 (by intro u hu;rw [List.mem_singleton.1 hu];rfl) (by unfold maxLen;omega) (by omega) (by have:=hR.size;simp;omega) ?_);intro v1 w1 hown1 hgrow1;have hb1:=below_grown2 bl1 hgrow1 (fun k hk=>(own1.lt k hk).1) (by have:=hR.size;simp;omega)))
   have HN:Hid (w1.ownsRow w.heap.size 3 1 v1 (i+1) (vecV (i+1) f)/\Below w.heap.size w w1):=by
    refine show _/\_ from⟨?_,hb1⟩
    rw [vecV_succ]
    exact hown1
   clear hown1 hgrow1 hb1 own1 src1 bl1 hown d0
   go_roundg k1
   case measure=>omega
   case rel=>exact⟨i+1,by simp,by omega,by omega,HN⟩
  ·have hie:i=n:=by omega
   have t1:decide ((i:Int)<(n:Int))=false:=by simp;omega
   rw [hie] at hown
   go_wp2_with fail
   exact bodyPost_ret (v:=u3) (by simp [results,Tryz.results34,go_sem]) rfl ⟨_,rfl,hown,hR⟩
def wid:Nat->Nat->Nat
 |0,_=>0
 |k+1,m=>if m=0 then 0 else wid k (m / 2)+1
theorem wid_zero (k:Nat):wid k 0=0:=by cases k<;> simp [wid]
theorem wid_bits {q:Int}(h:Al.isPrime q=true):(wid 23 (q - 1).toNat:Int)=Al.bitsOf q/\(q - 1).toNat<2 ^ 23:=by
 simp [Al.isPrime] at h
 rcases h with (((((e|e)|e)|e)|e)|e)|e<;> subst e<;> decide
theorem ref_width (w:World)(M:Nat)(hM:M<2 ^ 23):Calls Tryz.prog 95 #[.int .i64 M] w fun e w'=>e= .returned (.int .i64 (wid 23 M))/\w'=w:=by
 obtain⟨R,hR⟩:∃ R,R=wid 23 M:=⟨_,rfl⟩
 rw [<-hR]
 have HR:=Lib.hid hR
 clear hR
 go_enter Tryz.func95,Tryz.ntmps95
 go_wp2_with fail
 go_loopg [0,3] 23 (fun gk v0 v3 w'=>∃ m c:Nat,v0= .int .i64 m/\v3= .int .i64 c/\Hid (m<2 ^ gk/\c+wid gk m=R/\c<=23/\m<8388608/\c+gk=23)/\w'=w)
 case atStart=>exact⟨M,0,rfl,rfl,Lib.hid ⟨hM,by rw [show R=_ from HR];omega,by omega,by omega,by omega⟩,rfl⟩
 case round=>
  obtain⟨m,c,rfl,rfl,HW,rfl⟩:=hrel
  obtain⟨h1,h2,h3,h4,h6⟩:=show m<2 ^ gk/\c+wid gk m=R/\c<=23/\m<8388608/\c+gk=23 from HW
  clear HW
  by_cases hm:m=0
  ·subst hm
   rw [wid_zero] at h2
   have t0:decide ((0:Int)<((0:Nat):Int))=false:=by decide
   have E:=Lib.hid h2
   clear h1 h2 h6
   go_wp2_with fail
   exact bodyPost_ret (v:= .int .i64 c) (by simp [results,Tryz.results95,go_sem]) rfl ⟨by rw [<-show c+0=R from E];rfl,rfl⟩
  ·obtain⟨k1,rfl⟩:∃ k1,gk=k1+1:=⟨gk - 1,by
    have:gk≠0:=fun e=>by subst e;omega
    omega⟩
   have t0:decide ((0:Int)<(m:Int))=true:=decide_eq_true (by omega)
   have t1:decide (0<m)=true:=decide_eq_true (by omega)
   unfold wid at h2
   rw [if_neg hm] at h2
   have HN:Hid (m / 2<2 ^ k1/\(c+1)+wid k1 (m / 2)=R/\c+1<=23/\m / 2<8388608/\(c+1)+k1=23):=Lib.hid ⟨by rw [Nat.pow_succ] at h1;omega,by omega,by omega,by omega,by omega⟩
   clear h1 h2 h6
   go_wp2_with fail
   go_roundg k1
   case measure=>omega
   case rel=>exact⟨m / 2,c+1,by simp,by simp,HN,rfl⟩
def nmx (q:Int)(f:Nat->Int):Nat->Int
 |0=>0
 |k+1=>max (nmx q f k) (Al.mn q (f k))
theorem nmx_range {q:Int}{f:Nat->Int}:∀ k,(∀ j,j<k->0<=f j/\f j<q)->0<=nmx q f k/\(0<q->nmx q f k<=q)
 |0,_=>⟨Int.le_refl _,fun h=>by unfold nmx;omega⟩
 |k+1,h=>by
  have h1:=nmx_range k fun j hj=>h j (by omega)
  have h2:=h k (by omega)
  unfold nmx Al.mn
  split<;> omega
theorem nmx_near {q K:Int}{f:Nat->Int}:∀ k,(∀ j,j<k->0<=f j/\f j<q)->(nmx q f k<K ↔ 0<K/\Al.nacc (fun j=>decide (Al.mn q (f j)<K)) k=1)
 |0,_=>by simp [nmx,Al.nacc]
 |k+1,h=>by
  have h1:=nmx_near (K:=K) k fun j hj=>h j (by omega)
  unfold nmx Al.nacc
  by_cases hk:Al.mn q (f k)<K
  ·rw [if_pos (by simpa using hk)];omega
  ·rw [if_neg (by simpa using hk)];omega
theorem ref_center (w:World){a q:Int}(ha:0<=a/\a<q)(hq:17<=q/\q<=8380417):Calls Tryz.prog 140 #[.int .i64 a,.int .i64 q] w fun e w'=>e= .returned (.int .i64 (if (q - 1) / 2<a then a - q else a))/\w'=w:=by
 have HM:=ref_mod w (a:=a) (q:=q) (by omega) (by omega)
 rw [Int.emod_eq_of_lt ha.1 ha.2] at HM
 by_cases c:(q - 1) / 2<a
 ·rw [if_pos c]
  have t0:decide ((q - 1) / 2<a)=true:=decide_eq_true c
  go_enter Tryz.func140,Tryz.ntmps140
  go_wp2_with (first|(go_at_call 136;refine HM.mono ?_;rintro e w2 ⟨rfl,rfl⟩))
  exact bodyPost_ret (v:= .int .i64 (a - q)) (by simp [results,Tryz.results140,go_sem]) rfl ⟨rfl,rfl⟩
 ·rw [if_neg c]
  have t0:decide ((q - 1) / 2<a)=false:=decide_eq_false c
  go_enter Tryz.func140,Tryz.ntmps140
  go_wp2_with (first|(go_at_call 136;refine HM.mono ?_;rintro e w2 ⟨rfl,rfl⟩))
  exact bodyPost_ret (v:= .int .i64 a) (by simp [results,Tryz.results140,go_sem]) rfl ⟨rfl,rfl⟩
theorem ref_abs (w:World){a:Int}(ha: -8380417<=a/\a<=8380417):Calls Tryz.prog 139 #[.int .i64 a] w fun e w'=>e= .returned (.int .i64 (max a (-a)))/\w'=w:=by
 by_cases h:a< -a
 ·rw [show max a (-a)= -a by omega]
  go_enter Tryz.func139,Tryz.ntmps139
  go_wp2_with fail
  exact bodyPost_ret (v:= .int .i64 (-a)) (by simp [results,Tryz.results139,go_sem]) rfl ⟨rfl,rfl⟩
 ·rw [show max a (-a)=a by omega]
  go_enter Tryz.func139,Tryz.ntmps139
  go_wp2_with fail
  exact bodyPost_ret (v:= .int .i64 a) (by simp [results,Tryz.results139,go_sem]) rfl ⟨rfl,rfl⟩
theorem abs_mn {a q:Int}(ha:0<=a/\a<q):max (if (q - 1) / 2<a then a - q else a) (-(if (q - 1) / 2<a then a - q else a))=Al.mn q a:=by
 unfold Al.mn
 split<;> split<;> omega
theorem ref_norm {w:World}{q:Int}{n:Nat}{A:Option Addr}{f:Nat->Int}(ca:Nat)(hf:Vec w A n f)(bf:∀ j,j<n->0<=f j/\f j<q)(hq:17<=q/\q<=8380417)(hn:n<=256):Calls Tryz.prog 103 #[.agg #[.int .i64 q,.int .i64 n],.slice A n ca] w fun e w'=>e= .returned (.int .i64 (nmx q f n))/\Below w.heap.size w w':=by
 obtain⟨a,rfl,hf⟩:=hf
 obtain⟨R,hR⟩:∃ R,R=nmx q f n:=⟨_,rfl⟩
 rw [<-hR]
 obtain⟨W,hW⟩:∃ W,W=w.alloc (.cells #[.int .i64 q,.int .i64 n] 23):=⟨_,rfl⟩
 obtain⟨kq,hkq⟩:∃ kq,kq=w.heap.size:=⟨_,rfl⟩
 have HH:Hid (Below w.heap.size w W/\W.heap[kq]?=some (.cells #[.int .i64 q,.int .i64 n] 23 (0,0))):=by
  rw [hW,hkq];exact Lib.hid ⟨(Below.refl _ _).alloc (Nat.le_refl _) _,heap_alloc_new w _⟩
 have HF:=Lib.hid hf
 have BF:=Lib.hid bf
 have HR:=Lib.hid hR
 clear hf bf hR
 go_enter Tryz.func103,Tryz.ntmps103
 go_wp2_with fail
 rw [<-hW]
 simp only [<-hkq]
 replace hkq:=Lib.hid hkq
 clear hW
 go_loopg [5,6] (n+1) (fun gk v5 v6 w'=>∃ i:Nat,v5= .int .i64 (nmx q f i)/\v6= .int .i64 i/\i+gk=n+1/\i<=n/\Hid (Below w.heap.size w w'/\w'.heap[kq]?=some (.cells #[.int .i64 q,.int .i64 n] 23 (0,0))))
 case atStart=>exact⟨0,rfl,rfl,by omega,by omega,HH⟩
 case round=>
  obtain⟨i,rfl,rfl,hg,hi2,HR2⟩:=hrel
  obtain⟨hb,hq0⟩:=show Below w.heap.size w wr/\wr.heap[kq]?=some (.cells #[.int .i64 q,.int .i64 n] 23 (0,0)) from HR2
  clear HH HR2
  have q0:wr.cell? ⟨kq,0,none⟩=some (.int .i64 q):=(cell_blk hq0 _).trans rfl
  by_cases hil:i<n
  ·obtain⟨k1,rfl⟩:∃ k1,gk=k1+1:=⟨gk - 1,by omega⟩
   have r0:(0:Int)<=(i:Int):=by omega
   have r1:(i:Int)<(n:Int):=by omega
   have r2:decide ((i:Int)<(n:Int))=true:=decide_eq_true r1
   have d0:=cell_since hb ((show ∀ j,j<n->w.cell? (a.add j)=some (.int .i64 (f j)) from HF) i hil)
   have b0:=(show ∀ j,j<n->0<=f j/\f j<q from BF) i hil
   have hx:nmx q f (i+1)=max (nmx q f i) (max (if (q - 1) / 2<f i then f i - q else f i) (-(if (q - 1) / 2<f i then f i - q else f i))):=by rw [abs_mn b0];rfl
   obtain⟨c,hc⟩:∃ c,c=(if (q - 1) / 2<f i then f i - q else f i):=⟨_,rfl⟩
   have hc2: -8380417<=c/\c<=8380417:=by rw [hc];split<;> omega
   have HC:=fun w0=>ref_center w0 b0 hq
   rw [<-hc] at hx
   simp only [<-hc] at HC
   have HA:=fun w0=>ref_abs w0 hc2
   obtain⟨x,hx2⟩:∃ x,x=max c (-c):=⟨_,rfl⟩
   have hx3:0<=x/\x<=8380417:=by omega
   rw [<-hx2] at hx
   simp only [<-hx2] at HA
   have HX:=Lib.hid hx
   have n0:=nmx_range i fun j hj=>(show ∀ j,j<n->0<=f j/\f j<q from BF) j (by omega)
   have n1:=n0.2 (by omega)
   have n2:=n0.1
   obtain⟨m,hm⟩:∃ m,m=nmx q f i:=⟨_,rfl⟩
   rw [<-hm] at n1 n2
   have HM:=Lib.hid hm
   rw [<-hm]
   have HN:Hid (Below w.heap.size w wr.drew/\wr.drew.heap[kq]?=some (.cells #[.int .i64 q,.int .i64 n] 23 (0,0))):=Lib.hid ⟨below_drew' hb,hq0⟩
   clear hx hc b0 n0 hm hb hq0 hx2 hc2
   by_cases hmx:m<x
   all_goals
    go_wp2_with fail
    go_region_held3 (fun w'=>w'.cell? (a.add i)=some (.int .i64 (f i))/\w'.cell? ⟨kq,0,none⟩=some (.int .i64 q)) (refine⟨?_,?_⟩<;> assumption) (first
     |(go_at_call 140;refine (HC _).mono ?_;rintro e w2 ⟨rfl,rfl⟩)
     |(go_at_call 139;refine (HA _).mono ?_;rintro e w2 ⟨rfl,rfl⟩))
    go_wp2_with fail
    go_roundg k1
    case measure=>omega
    case rel=>exact⟨i+1,by rw [show nmx q f (i+1)=_ from HX,<-show m=nmx q f i from HM];congr 1;omega,by simp,by omega,by omega,HN⟩
  ·have hie:i=n:=by omega
   have t1:decide ((i:Int)<(n:Int))=false:=by simp;omega
   subst hie
   go_wp2_with fail
   exact bodyPost_ret (v:= .int .i64 (nmx q f i)) (by simp [results,Tryz.results103,go_sem]) rfl ⟨by rw [show R=nmx q f i from HR],hb⟩
theorem made_ints (n:Nat):(madeCells (Value.int .i64 0).cells (n * 1)).toList=vecV n (fun _=>0):=by
 have e:(Value.int .i64 0).cells= #[.int .i64 0]:=rfl
 rw [e,Nat.mul_one]
 apply List.ext_getElem
 ·simp [madeCells,vecV,vecN,intsV]
 ·intro j h1 h2
  simp [madeCells,vecV,vecN,intsV,Nat.mod_one]
def upTo (F:Nat->Int)(k:Nat):Nat->Int:=fun j=>if j<k then F j else 0
theorem vecV_set (n k:Nat)(F:Nat->Int)(hk:k<n):(vecV n (upTo F k)).set k (.int .i64 (F k))=vecV n (upTo F (k+1)):=by
 apply List.ext_getElem
 ·simp [vecV,vecN,intsV]
 ·intro j h1 h2
  simp [vecV,vecN,intsV,upTo,List.getElem_set]
  by_cases e:k=j
  ·subst e;simp
  ·rw [if_neg e]
   by_cases h:j<k
   ·rw [if_pos h,if_pos (by omega)]
   ·rw [if_neg h,if_neg (by omega)]
theorem vecV_congr {n:Nat}{f g:Nat->Int}(h:∀ j,j<n->f j=g j):vecV n f=vecV n g:=by
 unfold vecV vecN
 congr 1
 exact List.map_congr_left fun j hj=>h j (List.mem_range.1 hj)
theorem csum_near {f g:Nat->Int}{q:Int}{n k:Nat}(hq:17<=q/\q<=8380417)(hf:∀ j,j<n->0<=f j/\f j<q)(hg:∀ j,j<n->0<=g j/\g j<q)(hn:n<=256)(hk:k<n){i:Nat}(hi:i<=n):
  -18014398509481984<=Al.csum f g n k i/\Al.csum f g n k i<=18014398509481984:=by
 obtain⟨m,hm⟩:=Int.eq_ofNat_of_zero_le (show 0<=q by omega)
 subst hm
 have h:=Al.csum_bound (q:=m) (by omega) hf hg hk i hi
 have h2:Al.sqr m<=70231372333056:=by
  unfold Al.sqr
  have:((m:Int) - 1) * ((m:Int) - 1)<=8380416 * 8380416:=Int.mul_le_mul (by omega) (by omega) (by omega) (by omega)
  omega
 have h0:0<=Al.sqr m:=by unfold Al.sqr;exact Int.mul_nonneg (by omega) (by omega)
 have h3:(i:Int) * Al.sqr m<=256 * 70231372333056:=Int.mul_le_mul (by omega) h2 h0 (by omega)
 omega
structure CB (w w':World)(kq g:Nat)(q:Int)(n:Nat)(M:Nat->Int):Prop where
 o:w'.ownsRow w.heap.size 3 1 (.slice (some ⟨g,0,none⟩) n n) n (vecV n M)
 b:Below w.heap.size w w'
 r:w'.heap[kq]?=some (.cells #[.int .i64 q,.int .i64 n] 23 (0,0))
theorem ref_conv {w:World}{q:Int}{n:Nat}{A B:Option Addr}{f g:Nat->Int}(ca cb:Nat)(hf:Vec w A n f)(hg:Vec w B n g)(bf:∀ j,j<n->0<=f j/\f j<q)(bg:∀ j,j<n->0<=g j/\g j<q)(hq:17<=q/\q<=8380417)(hn:n<=256):
  Calls Tryz.prog 100 #[.agg #[.int .i64 q,.int .i64 n],.slice A n ca,.slice B n cb] w fun e w'=>∃ v,e= .returned v/\w'.ownsRow w.heap.size 3 1 v n (vecV n fun k=>Al.csum f g n k n % q)/\Below w.heap.size w w':=by
 obtain⟨a,rfl,hf⟩:=hf
 obtain⟨b,rfl,hg⟩:=hg
 obtain⟨j0,hj0,jz0,jz1,jz2⟩:=info_parts Tryz.infoInt
 obtain⟨F,hF⟩:∃ F:Nat->Int,F=fun k=>Al.csum f g n k n % q:=⟨_,rfl⟩
 rw [<-hF]
 obtain⟨W,hW⟩:∃ W,W=w.alloc (.cells #[.int .i64 q,.int .i64 n] 23):=⟨_,rfl⟩
 obtain⟨kq,hkq⟩:∃ kq,kq=w.heap.size:=⟨_,rfl⟩
 have hb0:Below w.heap.size w W:=by rw [hW];exact (Below.refl _ _).alloc (Nat.le_refl _) _
 have R0:W.heap[kq]?=some (.cells #[.int .i64 q,.int .i64 n] 23 (0,0)):=by rw [hW,hkq];exact heap_alloc_new w _
 have q1:W.cell? ⟨kq,1,none⟩=some (.int .i64 n):=(cell_blk R0 _).trans rfl
 have HF:=Lib.hid hf
 have HG:=Lib.hid hg
 have BF:=Lib.hid bf
 have BG:=Lib.hid bg
 have HFF:=Lib.hid hF
 clear hf hg bf bg hF
 go_enter Tryz.func100,Tryz.ntmps100
 go_wp2_with (first
  |(at_make;refine wpList_make_full _ rfl _ _ 86 rfl w.heap.size 3 j0 (.int .i64 0) 1 Tryz.underlying86 hj0 jz0 jz1 .i64 .i64 _ _ n rfl rfl rfl rfl (by rw [jz2];omega) (by unfold maxLen;omega) (by rw [<-hW];exact hb0.size) ?_;intro w1 hown1 hgrow1;rw [made_ints] at hown1;rw [<-hW] at hown1 hgrow1 ⊢;simp only [<-hkq];obtain⟨g0,hg0⟩:∃ g0,g0=W.heap.size:=⟨_,rfl⟩;rw [<-hg0] at hown1 ⊢;have HH:Hid (CB w w1 kq g0 q n (upTo F 0)):=Lib.hid ⟨by rw [vecV_congr (g:=fun _=>0) (fun j hj=>by unfold upTo;simp)];exact hown1,hb0.trans (lower_below (below_grown0 hgrow1) hb0.size),below_blk (below_grown0 hgrow1) R0 (blk_lt R0)⟩;replace hg0:=Lib.hid hg0;clear hown1 hgrow1 q1 R0 hb0;replace hkq:=Lib.hid hkq;clear hW))
 go_loopg [8,9,10] (n+1) (fun gk v8 v9 v10 w'=>∃ k:Nat,v8= .int .i64 k/\k+gk=n+1/\k<=n/\Hid (CB w w' kq g0 q n (upTo F k)))
 case atStart=>exact⟨0,rfl,by omega,by omega,HH⟩
 case round=>
  obtain⟨k,rfl,hg1,hk2,HR⟩:=hrel
  have C0:=show CB w wr kq g0 q n (upTo F k) from HR
  have q1:wr.cell? ⟨kq,1,none⟩=some (.int .i64 n):=(cell_blk C0.r _).trans rfl
  clear HH HR
  by_cases hkl:k<n
  ·obtain⟨k1,rfl⟩:∃ k1,gk=k1+1:=⟨gk - 1,by omega⟩
   have r2:decide ((k:Int)<(n:Int))=true:=decide_eq_true (by omega)
   have HH:Hid (CB w wr kq g0 q n (upTo F k)):=Lib.hid C0
   clear C0
   go_wp2_with fail
   clear q1 r2
   go_loopg [9,10] (n+1) (fun gk v9 v10 w'=>∃ i:Nat,v9= .int .i64 (Al.csum f g n k i)/\v10= .int .i64 i/\i+gk=n+1/\i<=n/\Hid (CB w w' kq g0 q n (upTo F k)))
   case atStart=>exact⟨0,rfl,rfl,by omega,by omega,HH⟩
   case round=>
    obtain⟨i,rfl,rfl,hg2,hi2,HR⟩:=hrel
    have C0:=show CB w wr kq g0 q n (upTo F k) from HR
    have q1:wr.cell? ⟨kq,1,none⟩=some (.int .i64 n):=(cell_blk C0.r _).trans rfl
    have q0:wr.cell? ⟨kq,0,none⟩=some (.int .i64 q):=(cell_blk C0.r _).trans rfl
    clear HH HR
    have s1:=csum_near hq (show ∀ j,j<n->0<=f j/\f j<q from BF) (show ∀ j,j<n->0<=g j/\g j<q from BG) hn hkl hi2
    by_cases hil:i<n
    ·obtain⟨k2,rfl⟩:∃ k2,gk=k2+1:=⟨gk - 1,by omega⟩
     have r2:decide ((i:Int)<(n:Int))=true:=decide_eq_true (by omega)
     have d0:=cell_since C0.b ((show ∀ j,j<n->w.cell? (a.add j)=some (.int .i64 (f j)) from HF) i hil)
     have f0:=(show ∀ j,j<n->0<=f j/\f j<q from BF) i hil
     obtain⟨j,hj,hjv⟩:∃ j,j<n/\(i<=k/\(j:Int)=(k:Int) - i/\Al.csum f g n k (i+1)=Al.csum f g n k i+f i * g j\/k<i/\(j:Int)=(n:Int)+k - i/\Al.csum f g n k (i+1)=Al.csum f g n k i - f i * g j):=by
      by_cases c:i<=k
      ·exact⟨k - i,by omega,.inl ⟨c,by omega,by simp [Al.csum,Al.cterm,c]⟩⟩
      ·exact⟨n+k - i,by omega,.inr ⟨by omega,by omega,by simp [Al.csum,Al.cterm,c];omega⟩⟩
     have d1:=cell_since C0.b ((show ∀ j,j<n->w.cell? (b.add j)=some (.int .i64 (g j)) from HG) j hj)
     have g0':=(show ∀ j,j<n->0<=g j/\g j<q from BG) j hj
     obtain⟨p0,p1⟩:=prod_lt f0 g0' hq.2
     obtain⟨s,hs⟩:∃ s,s=Al.csum f g n k i:=⟨_,rfl⟩
     rw [<-hs] at s1 hjv ⊢
     have HS:=Lib.hid hs
     clear hs
     have w1:IntKind.i64.wrap (f i * g j)=f i * g j:=IntWalk.i64_in _ (by omega)
     have j0':(0:Int)<=(j:Int):=by omega
     have j1':(j:Int)<(n:Int):=by omega
     have i0':(0:Int)<=(i:Int):=by omega
     have i1':(i:Int)<(n:Int):=by omega
     have HN:∀ m,Hid (CB w (wr.drewN m) kq g0 q n (upTo F k)):=fun m=>Lib.hid ⟨C0.o,⟨C0.b.os,C0.b.tape,C0.b.output,C0.b.size,C0.b.block⟩,C0.r⟩
     rcases hjv with⟨c,hj1,hj2⟩|⟨c,hj1,hj2⟩
     ·have t1:decide ((i:Int)<=(k:Int))=true:=decide_eq_true (by omega)
      have w2:IntKind.i64.wrap ((k:Int) - (i:Int))=(j:Int):=by rw [<-hj1];exact IntWalk.i64_in _ (by omega)
      have w3:IntKind.i64.wrap (s+f i * g j)=s+f i * g j:=IntWalk.i64_in _ (by omega)
      have HJ:=Lib.hid hj2
      clear hj1 hj2 s1 f0 g0' p0 p1 C0
      go_wp2_with fail
      go_quiet (fail)
      go_wp2_with fail
      go_roundg k2
      case measure=>omega
      case rel=>exact⟨i+1,by rw [show Al.csum f g n k (i+1)=_ from HJ],by simp,by omega,by omega,HN _⟩
     ·have t1:decide ((i:Int)<=(k:Int))=false:=decide_eq_false (by omega)
      have w4:IntKind.i64.wrap ((n:Int)+(k:Int))=(n:Int)+(k:Int):=IntWalk.i64_in _ (by omega)
      have w2:IntKind.i64.wrap ((n:Int)+(k:Int) - (i:Int))=(j:Int):=by rw [<-hj1];exact IntWalk.i64_in _ (by omega)
      have w3:IntKind.i64.wrap (s - f i * g j)=s - f i * g j:=IntWalk.i64_in _ (by omega)
      have HJ:=Lib.hid hj2
      clear hj1 hj2 s1 f0 g0' p0 p1 C0
      go_wp2_with fail
      go_quiet (fail)
      go_wp2_with fail
      go_roundg k2
      case measure=>omega
      case rel=>exact⟨i+1,by rw [show Al.csum f g n k (i+1)=_ from HJ],by simp,by omega,by omega,HN _⟩
    ·have hie:i=n:=by omega
     subst hie
     have t1:decide ((i:Int)<(i:Int))=false:=by simp
     have hFk:Al.csum f g i k i % q=F k:=by rw [show F=_ from HFF]
     have HM:=fun w0=>ref_mod w0 (a:=Al.csum f g i k i) (q:=q) (by omega) (by omega)
     simp only [hFk] at HM
     obtain⟨s,hs⟩:∃ s,s=Al.csum f g i k i:=⟨_,rfl⟩
     simp only [<-hs] at HM ⊢
     obtain⟨x,hx⟩:∃ x,x=F k:=⟨_,rfl⟩
     simp only [<-hx] at HM
     have o1:=(C0.o.stored k (.int .i64 x)).1
     rw [hx,vecV_set i k F hkl,<-hx] at o1
     have hgb:w.heap.size<=g0:=(C0.o.lt g0 rfl).1
     have hne:kq≠g0:=fun e=>own_ne_blk C0.o C0.r (by decide) (by rw [e];rfl)
     have e0:∃ u,wr.cell? ⟨g0,k,none⟩=some u:=⟨_,(C0.o.cellAt k (by omega)).trans (List.getElem?_eq_getElem (by simp [vecV,vecN,intsV];omega))⟩
     obtain⟨u,e0⟩:=e0
     have e1:=C0.o.frozenAt (j:=k)
     have HN:Hid (CB w (wr.setCell ⟨g0,k,none⟩ (.int .i64 x)) kq g0 q i (upTo F (k+1))):=Lib.hid ⟨o1,below_set C0.b hgb,by rw [set_blk_ne _ _ hne];exact C0.r⟩
     have k0':(0:Int)<=(k:Int):=by omega
     have k1':(k:Int)<(i:Int):=by omega
     clear o1 C0 hs hx hFk s1
     go_wp2_with (first|(go_at_call 136;refine (HM _).mono ?_;rintro e w2 ⟨rfl,rfl⟩))
     go_roundg k1
     case measure=>omega
     case rel=>exact⟨k+1,by simp,by omega,by omega,HN⟩
  ·have hke:k=n:=by omega
   subst hke
   have t1:decide ((k:Int)<(k:Int))=false:=by simp
   have ho:=C0.o
   rw [vecV_congr (g:=F) (fun j hj=>by unfold upTo;rw [if_pos hj])] at ho
   have hb:=C0.b
   clear C0
   go_wp2_with fail
   exact bodyPost_ret (v:= .slice (some ⟨g0,0,none⟩) k k) (by simp [results,Tryz.results100,go_sem]) rfl ⟨_,rfl,ho,hb⟩
end Go.Proofs.YtkplfaionpplaaaGreatDoor
