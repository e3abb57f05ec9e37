/- Part 16: B46, B47, B48, B49, B52, P31, B53. -/
import Derived.Test.YtkplfaionpplaaaGreatDoorK15
import Derived.Laws.AppendOwnNone
set_option maxRecDepth 100000
set_option maxHeartbeats 6400000
set_option linter.unusedVariables false
set_option linter.unusedSimpArgs false
namespace Go.Proofs.YtkplfaionpplaaaGreatDoor
open Go.RowKit
theorem contains_snoc (L:List Int)(y x:Int):(L++[y]).contains x=(L.contains x || (y == x)):=by
 rw [Bool.eq_iff_iff,Bool.or_eq_true,List.contains_iff_mem,List.contains_iff_mem,List.mem_append,List.mem_singleton,beq_iff_eq]
 exact⟨fun h=>h.elim .inl (fun e=> .inr e.symm),fun h=>h.elim .inl (fun e=> .inr e.symm)⟩
def faultV (f:Al.Fault):Value:= .agg #[.int .i64 f.code,.bool f.placed,.int .i64 f.pos]
theorem ref_none (w:World):Calls Tryz.prog 52 #[] w fun e w'=>e= .returned (faultV .fine)/\Below w.heap.size w w':=by
 go_enter Tryz.func52,Tryz.ntmps52
 go_wp2_with fail
 exact bodyPost_ret (v:=faultV .fine) (by simp [results,Tryz.results52,go_sem,faultV,Al.Fault.fine]) rfl ⟨rfl,(Below.refl _ _).alloc (Nat.le_refl _) _⟩
theorem ref_bare (w:World)(c:Int):Calls Tryz.prog 53 #[.int .i64 c] w fun e w'=>e= .returned (faultV (.bare c))/\Below w.heap.size w w':=by
 go_enter Tryz.func53,Tryz.ntmps53
 go_wp2_with fail
 exact bodyPost_ret (v:=faultV (.bare c)) (by simp [results,Tryz.results53,go_sem,faultV,Al.Fault.bare]) rfl ⟨rfl,(Below.refl _ _).alloc (Nat.le_refl _) _⟩
theorem ref_placed (w:World)(c i:Int)(hc:c≠0):Calls Tryz.prog 51 #[.int .i64 c,.int .i64 i] w fun e w'=>e= .returned (faultV (.at_ c i))/\Below w.heap.size w w':=by
 have z:(c == 0)=false:=beq_false_of_ne hc
 go_enter Tryz.func51,Tryz.ntmps51
 go_wp2_with fail
 exact bodyPost_ret (v:=faultV (.at_ c i)) (by simp [results,Tryz.results51,go_sem,faultV,Al.Fault.at_]) rfl ⟨rfl,(Below.refl _ _).alloc (Nat.le_refl _) _⟩
theorem ref_has {w:World}{a:Option Addr}{cap:Nat}{L:List Int}(hI:IntsAt w (.slice a L.length cap) L)(hL:L.length<1000)(x:Int):
  Calls Tryz.prog 127 #[.slice a L.length cap,.int .i64 x] w fun e w'=>e= .returned (.bool (L.contains x))/\w'=w:=by
 obtain⟨R,hR⟩:∃ R,R=L.contains x:=⟨_,rfl⟩
 rw [<-hR]
 replace hR:=Lib.hid hR
 go_enter Tryz.func127,Tryz.ntmps127
 go_wp2_with fail
 go_loopg [5] (L.length+1) (fun gk v5 w'=>∃ j:Nat,v5= .int .i64 j/\(L.take j).contains x=false/\j+gk=L.length+1/\j<=L.length/\w'=w)
 case atStart=>exact⟨0,rfl,by simp,by omega,by omega,rfl⟩
 case round=>
  obtain⟨j,rfl,hno,hj,hj2,hww⟩:=hrel
  subst hww
  by_cases hjl:j<L.length
  ·obtain⟨k1,rfl⟩:∃ k1,gk=k1+1:=⟨gk - 1,by omega⟩
   obtain⟨ag,he,hcell⟩:=ints_get hI hjl
   have hnx:(L.take (j+1)).contains x=((L.take j).contains x || (L[j] == x)):=by
    rw [List.take_succ_eq_append_getElem hjl];exact contains_snoc _ _ _
   obtain⟨y,hy⟩:∃ y,y=L[j]:=⟨_,rfl⟩
   rw [<-hy] at hcell hnx
   have hmem:y∈L:=by rw [hy];exact List.getElem_mem _
   replace hy:=Lib.hid hy
   have t1:decide ((j:Int)<(L.length:Int))=true:=by simp;omega
   have t2:(0:Int)<=(j:Int):=by omega
   have t3:(j:Int)<(L.length:Int):=by omega
   subst he
   clear hI
   by_cases hyx:y=x
   ·have z:(y == x)=true:=by rw [hyx];exact beq_self_eq_true _
    have hRt:R=true:=by rw [show R=L.contains x from hR,<-hyx];simpa using hmem
    clear hyx hnx hmem
    go_wp2_with fail
    exact bodyPost_ret (v:= .bool true) (by simp [results,Tryz.results127,go_sem]) rfl ⟨by rw [hRt],rfl⟩
   ·have z:(y == x)=false:=beq_false_of_ne hyx
    rw [hno,z] at hnx
    clear hyx hmem
    replace hnx:=Lib.hid hnx
    go_wp2_with fail
    go_roundg k1
    case measure=>omega
    case rel=>exact⟨j+1,by simp,hnx,by omega,by omega,rfl⟩
  ·have hje:j=L.length:=by omega
   have t1:decide ((j:Int)<(L.length:Int))=false:=by simp;omega
   have hRf:R=false:=by rw [show R=L.contains x from hR,<-hno,hje,List.take_length]
   go_wp2_with fail
   exact bodyPost_ret (v:= .bool false) (by simp [results,Tryz.results127,go_sem]) rfl ⟨by rw [hRf],rfl⟩
def primeL:List Int:=[17,97,257,3329,7681,12289,8380417]
def sizeL:List Int:=[4,8,16,32,64,128,256]
theorem primeL_is (q:Int):primeL.contains q=Al.isPrime q:=by
 rw [Bool.eq_iff_iff];simp [Al.isPrime,primeL,or_assoc]
theorem sizeL_is (n:Int):sizeL.contains n=Al.isSize n:=by
 rw [Bool.eq_iff_iff];simp [Al.isSize,sizeL,or_assoc]
theorem ints_new (w:World)(L:List Int)(hL:L≠[]):IntsAt (w.alloc (.cells (intsV L).toArray 3)) (.slice (some ⟨w.heap.size,0,none⟩) L.length L.length) L:=
 .inr ⟨w.heap.size,L.length,(intsV L).toArray,rfl,heap_alloc_new w _,fun j hj=>by simp [intsV,hj]⟩
theorem ref_primes (w:World):Calls Tryz.prog 173 #[] w fun e w'=>e= .returned (.slice (some ⟨w.heap.size,0,none⟩) 7 7)/\IntsAt w' (.slice (some ⟨w.heap.size,0,none⟩) 7 7) primeL/\Below w.heap.size w w':=by
 have hI:IntsAt (w.alloc (.cells #[.int .i64 17,.int .i64 97,.int .i64 257,.int .i64 3329,.int .i64 7681,.int .i64 12289,.int .i64 8380417] 3)) (.slice (some ⟨w.heap.size,0,none⟩) 7 7) primeL:=by
  have:=ints_new w primeL (by decide)
  simpa [primeL,intsV] using this
 have hb:Below w.heap.size w (w.alloc (.cells #[.int .i64 17,.int .i64 97,.int .i64 257,.int .i64 3329,.int .i64 7681,.int .i64 12289,.int .i64 8380417] 3)):=(Below.refl _ _).alloc (Nat.le_refl _) _
 go_enter Tryz.func173,Tryz.ntmps173
 go_wp2_with fail
 refine gen_world (Q:=fun W=>bodyPost _ _ _ _ _ W) _ (fun W=>IntsAt W (.slice (some ⟨w.heap.size,0,none⟩) 7 7) primeL/\Below w.heap.size w W) ⟨hI,hb⟩ ?_
 clear hI hb
 rintro W ⟨hI,hb⟩
 exact bodyPost_ret (v:= .slice (some ⟨w.heap.size,0,none⟩) 7 7) (by simp [results,Tryz.results173,go_sem]) rfl ⟨rfl,hI,hb⟩
theorem has_seven {w:World}{a:Option Addr}{L:List Int}(h7:L.length=7)(hI:IntsAt w (.slice a 7 7) L)(x:Int):Calls Tryz.prog 127 #[.slice a 7 7,.int .i64 x] w fun e w'=>e= .returned (.bool (L.contains x))/\w'=w:=by
 have:=ref_has (w:=w) (a:=a) (cap:=7) (L:=L) (by rw [h7];exact hI) (by omega) x
 rw [h7] at this
 exact this
theorem ref_is (w:World)(q:Int):Calls Tryz.prog 126 #[.int .i64 q] w fun e w'=>e= .returned (.bool (Al.isPrime q))/\Below w.heap.size w w':=by
 obtain⟨R,hR⟩:∃ R,R=Al.isPrime q:=⟨_,rfl⟩
 have hR2:primeL.contains q=R:=by rw [hR,primeL_is]
 rw [<-hR]
 have HP:=ref_primes w
 obtain⟨L,hL⟩:∃ L,L=primeL:=⟨_,rfl⟩
 have h7:L.length=7:=by rw [hL];rfl
 rw [<-hL] at HP hR2
 clear hL hR
 go_enter Tryz.func126,Tryz.ntmps126
 go_wp2_with (first|(go_at_call 173;refine HP.mono ?_;rintro e w1 ⟨rfl,hI,hb⟩)|(go_at_call 127;refine (has_seven h7 hI q).mono ?_;rintro e w2 ⟨rfl,rfl⟩))
 exact bodyPost_ret (v:= .bool (L.contains q)) (by simp [results,Tryz.results126,go_sem]) rfl ⟨by rw [hR2],hb⟩
theorem ref_ring (w:World)(q n:Int):Calls Tryz.prog 84 #[.agg #[.int .i64 q,.int .i64 n]] w fun e w'=>e= .returned (.int .i64 (if Al.ringOk q n then 0 else 101))/\Below w.heap.size w w':=by
 obtain⟨R,hR⟩:∃ R:Int,R=(if Al.ringOk q n then 0 else 101):=⟨_,rfl⟩
 rw [<-hR]
 unfold Al.ringOk at hR
 obtain⟨W,hW⟩:∃ W,W=w.alloc (.cells #[.int .i64 q,.int .i64 n] 23):=⟨_,rfl⟩
 have hb0:Below w.heap.size w W:=by rw [hW];exact (Below.refl _ _).alloc (Nat.le_refl _) _
 obtain⟨kp,hkp⟩:∃ kp,kp=w.heap.size:=⟨_,rfl⟩
 have h0:W.heap[kp]?=some (.cells #[.int .i64 q,.int .i64 n] 23 (0,0)):=by rw [hW,hkp];exact heap_alloc_new w _
 have hkl:=blk_lt h0
 have HI:=ref_is W q
 obtain⟨L,hL⟩:∃ L,L=sizeL:=⟨_,rfl⟩
 have h7:L.length=7:=by rw [hL];rfl
 have hN:∀ w1:World,IntsAt (w1.alloc (.cells #[.int .i64 4,.int .i64 8,.int .i64 16,.int .i64 32,.int .i64 64,.int .i64 128,.int .i64 256] 3)) (.slice (some ⟨w1.heap.size,0,none⟩) 7 7) L:=fun w1=>by
  have:=ints_new w1 sizeL (by decide)
  rw [hL]
  simpa [sizeL,intsV] using this
 have hc:L.contains n=Al.isSize n:=by rw [hL,sizeL_is]
 clear hL
 go_enter Tryz.func84,Tryz.ntmps84
 go_wp2_with fail
 rw [<-hW]
 simp only [<-hkp]
 clear hW hkp
 rcases Bool.eq_false_or_eq_true (Al.isPrime q) with hp|hp
 ·rw [hp] at HI hR
  have HH:=fun w1=>has_seven h7 (hN w1) n
  simp only [hc] at HH
  rcases Bool.eq_false_or_eq_true (Al.isSize n) with hz|hz
  all_goals
   simp only [hz] at HH
   rw [hz] at hR
   replace hR:=Lib.hid hR
   clear hc hN
   go_wp2_with (first|(go_at_call 126;refine HI.mono ?_;rintro e w1 ⟨rfl,hb1⟩;have v1:∀ o,(w1.alloc o).cell? ⟨kp,1,none⟩=some (.int .i64 n):=fun o=>(cell_blk (alloc_blk o (below_blk hb1 h0 hkl)) _).trans rfl)|(go_at_call 127;refine (HH w1).mono ?_;rintro e w2 ⟨rfl,rfl⟩))
  ·have hRv:R=0:=by rw [show R=_ from hR];rfl
   exact bodyPost_ret (v:= .int .i64 0) (by simp [results,Tryz.results84,go_sem]) rfl ⟨by rw [hRv],(hb0.trans (lower_below hb1 hb0.size)).alloc (Nat.le_trans hb0.size hb1.size) _⟩
  ·have hRv:R=101:=by rw [show R=_ from hR];rfl
   exact bodyPost_ret (v:= .int .i64 101) (by simp [results,Tryz.results84,go_sem]) rfl ⟨by rw [hRv],(hb0.trans (lower_below hb1 hb0.size)).alloc (Nat.le_trans hb0.size hb1.size) _⟩
 ·rw [hp] at HI hR
  have hRv:R=101:=by rw [hR];simp
  clear hR
  go_wp2_with (first|(go_at_call 126;refine HI.mono ?_;rintro e w1 ⟨rfl,hb1⟩))
  exact bodyPost_ret (v:= .int .i64 101) (by simp [results,Tryz.results84,go_sem]) rfl ⟨by rw [hRv],hb0.trans (lower_below hb1 hb0.size)⟩
open Go.Proofs.YtkplfaionpplaaaGreatDoorW.PrintWords
theorem depthL_snoc:∀ (l:List Al.Stmt) (s:Al.Stmt),Al.depthL (l++[s])=max (Al.depthL l) (Al.depthS s)
 |[],s=>by have:=depthS_nonneg s;simp only [List.nil_append,Al.depthL];omega
 |t :: l,s=>by simp only [List.cons_append,Al.depthL,depthL_snoc l s];omega
theorem depthS_eq (s:Al.Stmt):Al.depthS s=max 0 (max (Al.depthL s.body) (Al.depthL s.els)+1):=by cases s;unfold Al.depthS;rfl
theorem below_drew' {B:Nat}{w w':World}(h:Below B w w'):Below B w w'.drew:=⟨h.os,h.tape,h.output,h.size,h.block⟩
def DepthC (W0:World)(m:Nat):Prop:=∀ (l:List Al.Stmt) (A:Option Addr) (cap:Nat),Al.depthL l<m->kStmt.C W0 A l.length l->(Al.flatL l).length<=1000->∀ w,Below W0.heap.size W0 w->
 Calls Tryz.prog 86 #[.slice A l.length cap] w fun e w'=>e= .returned (.int .i64 (Al.depthL l))/\Below w.heap.size w w'
theorem depth_step {W0:World}{m:Nat}(hm9:m<=1000)(hm:0<m->DepthC W0 (m - 1)):DepthC W0 m:=by
 intro l A cap hd hl hll w hB
 have hfl:=flatL_len l
 have HL:=Lib.hid hl
 have HB:=Lib.hid hB
 clear hl hB
 go_enter Tryz.func86,Tryz.ntmps86
 go_wp2_with fail
 go_loopg [3,4] (l.length+1) (fun gk v3 v4 w'=>∃ i:Nat,v4= .int .i64 i/\v3= .int .i64 (Al.depthL (l.take i))/\i+gk=l.length+1/\i<=l.length/\Hid (Below w.heap.size w w'))
 case atStart=>exact⟨0,rfl,rfl,by omega,by omega,Lib.hid (Below.refl _ _)⟩
 case round=>
  obtain⟨i,rfl,hn,hg,hi2,HR⟩:=hrel
  subst hn
  have hR:=show Below w.heap.size w wr from HR
  have hB:=show Below W0.heap.size W0 w from HB
  have hB1:Below W0.heap.size W0 wr:=hB.trans (lower_below hR hB.size)
  by_cases hil:i<l.length
  ·obtain⟨k1,rfl⟩:∃ k1,gk=k1+1:=⟨gk - 1,by omega⟩
   obtain⟨ad,A6,c6,A7,c7,rfl,d0,d1,d2,d3,d4,d5,d6,d7,l6,g6,l7,g7⟩:=at_T902 (show kStmt.C W0 A l.length l from HL) (i:Int) (by omega) (by omega)
   clear d0 d1 d2 d3 d4 d5
   replace d6:=cell_since hB1 d6
   replace d7:=cell_since hB1 d7
   simp only [Int.toNat_natCast] at d6 d7
   obtain⟨s,hs⟩:∃ s,s=rd_T902 l (i:Int):=⟨_,rfl⟩
   simp only [<-hs] at d6 d7 l6 g6 l7 g7
   rw [rd_get l i hil] at hs
   have hds:=depth_get l i hil
   rw [<-hs] at hds
   have hdn:=depthS_nonneg s
   have hdb:=depth_body s
   have hge6:=depthL_ge s.body
   have hge7:=depthL_ge s.els
   have hse:=depthS_eq s
   have hnx:Al.depthL (l.take (i+1))=max (Al.depthL (l.take i)) (Al.depthS s):=by rw [take_succ l i hil,depthL_snoc,hs]
   have hpre:=depthL_ge (l.take i)
   have hfl2:(Al.flatL s.body).length<=1000/\(Al.flatL s.els).length<=1000:=by
    have e:Al.flatL l=Al.flatL (l.take i)++(Al.flatS s++Al.flatL (l.drop (i+1))):=by
     rw [<-flatL_one s,<-flatL_append,<-flatL_append]
     congr 1
     rw [hs]
     simp
    have h1:(Al.flatL l).length=(Al.flatL (l.take i)).length+((Al.flatS s).length+(Al.flatL (l.drop (i+1))).length):=by rw [e];simp only [List.length_append]
    have h2:(Al.flatS s).length=1+(Al.flatL s.body).length+(Al.flatL s.els).length:=by rw [flatS_eq];simp;omega
    omega
   replace hs:=Lib.hid hs
   have hm1:=hm (by omega)
   have HD1:=fun w1=>hm1 s.body A6 c6 (by omega) g6 hfl2.1 w1
   have HD2:=fun w1=>hm1 s.els A7 c7 (by omega) g7 hfl2.2 w1
   have r0:(0:Int)<=(i:Int):=by omega
   have r1:(i:Int)<(l.length:Int):=by omega
   have r2:decide ((i:Int)<(l.length:Int))=true:=decide_eq_true r1
   obtain⟨x,hx⟩:∃ x,x=Al.depthL s.body:=⟨_,rfl⟩
   obtain⟨y,hy⟩:∃ y,y=Al.depthL s.els:=⟨_,rfl⟩
   obtain⟨z,hz⟩:∃ z,z=Al.depthL (l.take i):=⟨_,rfl⟩
   obtain⟨ds,hds2⟩:∃ ds,ds=Al.depthS s:=⟨_,rfl⟩
   rw [<-hx] at HD1 hse hdb hge6
   rw [<-hy] at HD2 hse hdb hge7
   rw [<-hz] at hnx hpre ⊢
   rw [<-hds2] at hnx hse hds hdn hdb
   clear hx hy hds2
   replace hnx:=Lib.hid hnx
   replace hse:=Lib.hid hse
   replace hz:=Lib.hid hz
   have hx6:x<=1000:=by omega
   have hy6:y<=1000:=by omega
   have hw1:wrap64 (max x y+1)=max x y+1:=by unfold wrap64;omega
   have hBd:Below W0.heap.size W0 wr.drew:=below_drew' hB1
   clear hfl2
   go_wp2_with fail
   go_region_held3 (fun w'=>w'.cell? ⟨(ad.add (i * 8)).block,(ad.add (i * 8)).off+6,none⟩=some (.slice A6 s.body.length c6)/\w'.cell? ⟨(ad.add (i * 8)).block,(ad.add (i * 8)).off+7,none⟩=some (.slice A7 s.els.length c7)) ((constructor<;> assumption)) (first
    |(go_at_call 86;refine (HD1 _ hBd).mono ?_;rintro e w2 ⟨rfl,hb2⟩;replace hb2:=undrew hb2;have hB2:=hB1.trans (lower_below hb2 hB1.size);have e6:=cell_since hb2 d6;have e7:=cell_since hb2 d7;clear d6 d7 HD1)
    |(go_at_call 86;refine (HD2 _ hB2).mono ?_;rintro e w3 ⟨rfl,hb3⟩;have f6:=cell_since hb3 e6;have f7:=cell_since hb3 e7;clear e6 e7 HD2))
   have hw:IntKind.i64.wrap ((if x<y then y else x)+1)=(if x<y then y else x)+1:=IntWalk.i64_in _ (by split<;> omega)
   rw [hw]
   have hR3:Hid (Below w.heap.size w w3):=Lib.hid ((hR.trans (lower_below hb2 hR.size)).trans (lower_below hb3 (Nat.le_trans hR.size hb2.size)))
   have hV:(if z<(if 0<(if x<y then y else x)+1 then (if x<y then y else x)+1 else 0) then (if 0<(if x<y then y else x)+1 then (if x<y then y else x)+1 else 0) else z)=Al.depthL (l.take (i+1)):=by
    rw [show Al.depthL (l.take (i+1))=_ from hnx,show ds=_ from hse]
    (repeat' split)<;> omega
   rw [hV]
   obtain⟨zz,hzz⟩:∃ zz,zz=Al.depthL (l.take (i+1)):=⟨_,rfl⟩
   rw [<-hzz]
   clear hV hw hw1
   generalize (if x<y then y else x)=M
   generalize (if 0<M+1 then M+1 else 0)=M2
   replace hzz:=Lib.hid hzz
   clear f6 f7 hb2 hb3 hB2 hBd
   go_wp2_with fail
   go_roundg k1
   case measure=>omega
   case rel=>exact⟨i+1,by simp,(by rw [<-(show zz=_ from hzz)]),by omega,by omega,hR3⟩
  ·have hie:i=l.length:=by omega
   have t1:decide ((i:Int)<(l.length:Int))=false:=by simp;omega
   have e:l.take i=l:=by rw [hie,List.take_length]
   rw [e]
   go_wp2_with fail
   exact bodyPost_ret (v:= .int .i64 (Al.depthL l)) (by simp [results,Tryz.results86,go_sem]) rfl ⟨rfl,hR⟩
theorem depth_all {W0:World}:∀ (m:Nat),m<=1000->DepthC W0 m
 |0,h=>depth_step h (fun h0=>absurd h0 (by omega))
 |m+1,h=>depth_step h (fun _=>depth_all m (by omega))
theorem append_row {P:Program}{w:World}{ops:Array Oper}{rest:List Oper}{o:Oper}{a:Act}{Q:Exit->Act->World->Prop}(hgd:o.guard=none)(s x:Operand)(t:TypeId)
  (ho:o.op= .call { callee:= .builtin .append,args:= #[s,x],argTypes:= #[t,t]})
  (base:Nat) (e:TypeId) (i:TypeInfo) (z:Value) (size bytes:Nat) (ht:P.underlying t=some (.slice e)) (hi:P.info? e=some i) (hz:i.zero=some z)
  (hsize:i.size=size) (hby:i.bytes=bytes) (hzs:z.cells.size=size) (hsz:0<size)
  (v:Value) (n:Nat) (xs:List Value) (hs:a.eval s=v) (hown:w.ownsRow base e size v n xs)
  (base2:Nat) (u:Value) (m:Nat) (ys:List Value) (hx:a.eval x=u) (hu:w.ownsRow base2 e size u m ys) (h1:∀ u∈ys,u.oneCell'=true)
  (h63:n+m<=maxLen) (hbytes:(n+m) * bytes<=140737488355328) (hbase:base<=w.heap.size)
  (h:∀ v' w',w'.ownsRow base e size v' (n+m) (xs++ys)->(w'=w\/w.grownBy w' v.ownBlock)->wpList P ops Q rest (a.put o.dst v') w'):wpList P ops Q (o :: rest) a w:=by
 rcases hu.2 with⟨hn,h0⟩|⟨g,cap,cur,hv,g1,g2,g3,g4,g5,g6⟩
 ·have hy:ys=[]:=by have:=hu.1;rw [h0,Nat.zero_mul] at this;exact List.eq_nil_of_length_eq_zero this
  subst h0 hy hn
  refine wpList_append_own_none hgd s x t ho base e i size ht hi v n xs hs hown hx ?_
  exact h v w (by simpa using hown) (.inl rfl)
 ·refine wpList_append_own_at _ hgd s x t ho base e i z size bytes ht hi hz hsize hby hzs hsz v n xs hs hown ⟨g,0,none⟩ m cap ys (by rw [hx,hv]) hu.1 (fun j u hj=>World.news_of_block g2 j u ?_) h1 h63 hbytes hbase ?_
  ·rw [<-g6,List.getElem?_take] at hj
   split at hj
   ·exact hj
   ·cases hj
  ·intro v' w' hown' hgrow _ _
   exact h v' w' hown' (.inr hgrow)
def CellsS (W0:World):List Al.Stmt->List Value->Prop
 |[],cs=>cs=[]
 |s :: l,cs=>∃ A6 c6 A7 c7 cs',s.body.length<=c6/\kStmt.C W0 A6 s.body.length s.body/\s.els.length<=c7/\kStmt.C W0 A7 s.els.length s.els/\cs=(stmtV s (.slice A6 s.body.length c6) (.slice A7 s.els.length c7)).toList++cs'/\CellsS W0 l cs'
theorem CellsS.append {W0:World}:∀ {l m:List Al.Stmt} {cs ds:List Value},CellsS W0 l cs->CellsS W0 m ds->CellsS W0 (l++m) (cs++ds)
 |[],m,cs,ds,h,k=>by rw [show cs=[] from h];simpa using k
 |s :: l,m,cs,ds,h,k=>by
  obtain⟨A6,c6,A7,c7,cs',l6,g6,l7,g7,rfl,hr⟩:=h
  exact⟨A6,c6,A7,c7,cs'++ds,l6,g6,l7,g7,by simp,hr.append k⟩
theorem CellsS.one {W0:World}:∀ {l:List Al.Stmt} {cs:List Value},CellsS W0 l cs->∀ u∈cs,u.oneCell'=true
 |[],cs,h,u,hu=>by rw [show cs=[] from h] at hu;simp at hu
 |s :: l,cs,h,u,hu=>by
  obtain⟨A6,c6,A7,c7,cs',l6,g6,l7,g7,rfl,hr⟩:=h
  rcases List.mem_append.1 hu with hu|hu
  ·simp only [stmtV,List.mem_cons,List.not_mem_nil,or_false] at hu
   rcases hu with rfl|rfl|rfl|rfl|rfl|rfl|rfl|rfl<;> rfl
  ·exact hr.one u hu
theorem CellsS.single {W0:World}{s:Al.Stmt}{A6 A7:Option Addr}{c6 c7:Nat}(l6:s.body.length<=c6)(g6:kStmt.C W0 A6 s.body.length s.body)(l7:s.els.length<=c7)(g7:kStmt.C W0 A7 s.els.length s.els):CellsS W0 [s] (stmtV s (.slice A6 s.body.length c6) (.slice A7 s.els.length c7)).toList:=
 ⟨A6,c6,A7,c7,[],l6,g6,l7,g7,by simp,rfl⟩
def RowS (W0 w:World)(base:Nat)(v:Value)(l:List Al.Stmt):Prop:=∃ cs,w.ownsRow base 66 8 v l.length cs/\CellsS W0 l cs
theorem RowS.below {W0 w w':World}{base:Nat}{v:Value}{l:List Al.Stmt}(h:RowS W0 w base v l)(hb:Below w.heap.size w w'):RowS W0 w' base v l:=by
 obtain⟨cs,ho,hc⟩:=h
 exact⟨cs,own_of ho fun k hk=>hb.block k (ho.lt k hk).2,hc⟩
theorem Tryz.infoStmt:(Tryz.prog.info? 66).map (fun i=>(i.zero,i.size,i.bytes))=some (some (.agg #[.int .i64 0,.int .i64 0,.int .i64 0,.int .i64 0,.int .i64 0,.int .i64 0,.slice none 0 0,.slice none 0 0]),8,96):=by kernel_rfl
theorem below_grown2 {B:Nat}{w W W':World}{row:Option Nat}(hb:Below B w W)(hg:W'=W\/W.grownBy W' row)(hr:∀ k,row=some k->B<=k)(hB:B<=W.heap.size):Below B w W':=by
 rcases hg with rfl|hg
 ·exact hb
 ·exact below_grown hb hg hr hB
def FlatC (W0:World)(m:Nat):Prop:=∀ (l:List Al.Stmt) (A:Option Addr) (cap:Nat),Al.depthL l<m->kStmt.C W0 A l.length l->(Al.flatL l).length<=1000->∀ w,Below W0.heap.size W0 w->
 Calls Tryz.prog 20 #[.slice A l.length cap] w fun e w'=>∃ v,e= .returned v/\RowS W0 w' w.heap.size v (Al.flatL l)/\Below w.heap.size w w'
theorem flat_step {W0:World}{m:Nat}(hm:0<m->FlatC W0 (m - 1)):FlatC W0 m:=by
 intro l A cap hd hl hll w hB
 have hfl:=flatL_len l
 obtain⟨i0,hi0,iz0,iz1,iz2⟩:=info_parts Tryz.infoStmt
 have HL:=Lib.hid hl
 have HB:=Lib.hid hB
 clear hl hB
 go_enter Tryz.func20,Tryz.ntmps20
 go_wp2_with fail
 go_loopg [3,4] (l.length+1) (fun gk v3 v4 w'=>∃ i:Nat,v4= .int .i64 i/\i+gk=l.length+1/\i<=l.length/\Hid (RowS W0 w' w.heap.size v3 (Al.flatL (l.take i))/\Below w.heap.size w w'))
 case atStart=>exact⟨0,rfl,by omega,by omega,show _/\_ from⟨⟨[],by simpa [Al.flatL] using World.ownsRow_nil _ _ _ _,by simp [Al.flatL,CellsS]⟩,Below.refl _ _⟩⟩
 case round=>
  obtain⟨i,rfl,hg,hi2,HR⟩:=hrel
  obtain⟨hrow,hR⟩:=show RowS W0 wr w.heap.size u3 (Al.flatL (l.take i))/\Below w.heap.size w wr from HR
  have hB:=show Below W0.heap.size W0 w from HB
  have hB1:Below W0.heap.size W0 wr:=hB.trans (lower_below hR hB.size)
  by_cases hil:i<l.length
  ·obtain⟨k1,rfl⟩:∃ k1,gk=k1+1:=⟨gk - 1,by omega⟩
   obtain⟨ad,A6,c6,A7,c7,rfl,d0,d1,d2,d3,d4,d5,d6,d7,l6,g6,l7,g7⟩:=at_T902 (show kStmt.C W0 A l.length l from HL) (i:Int) (by omega) (by omega)
   have D6:=fun w' (hb:Below W0.heap.size W0 w')=>cell_since hb d6
   have D7:=fun w' (hb:Below W0.heap.size W0 w')=>cell_since hb d7
   replace d0:=cell_since hB1 d0
   replace d1:=cell_since hB1 d1
   replace d2:=cell_since hB1 d2
   replace d3:=cell_since hB1 d3
   replace d4:=cell_since hB1 d4
   replace d5:=cell_since hB1 d5
   replace d6:=cell_since hB1 d6
   replace d7:=cell_since hB1 d7
   simp only [Int.toNat_natCast] at d0 d1 d2 d3 d4 d5 d6 d7 D6 D7
   obtain⟨s,hs⟩:∃ s,s=rd_T902 l (i:Int):=⟨_,rfl⟩
   simp only [<-hs] at d0 d1 d2 d3 d4 d5 d6 d7 l6 g6 l7 g7 D6 D7
   rw [rd_get l i hil] at hs
   have hds:=depth_get l i hil
   rw [<-hs] at hds
   have hdn:=depthS_nonneg s
   have hdb:=depth_body s
   have hnx:Al.flatL (l.take (i+1))=Al.flatL (l.take i)++[s]++Al.flatL s.body++Al.flatL s.els:=by
    rw [take_succ l i hil,flatL_append,flatL_one,<-hs,flatS_eq];simp
   have e:Al.flatL l=Al.flatL (l.take (i+1))++Al.flatL (l.drop (i+1)):=by rw [<-flatL_append,List.take_append_drop]
   have hln:(Al.flatL (l.take i)).length+1+(Al.flatL s.body).length+(Al.flatL s.els).length<=1000:=by
    have h1:(Al.flatL l).length=_:=congrArg List.length e
    rw [hnx] at h1
    simp only [List.length_append,List.length_cons,List.length_nil] at h1
    omega
   replace hs:=Lib.hid hs
   replace hnx:=Lib.hid hnx
   clear e
   have hm1:=hm (by omega)
   have HD1:=fun w1=>hm1 s.body A6 c6 (by omega) g6 (by omega) w1
   have HD2:=fun w1=>hm1 s.els A7 c7 (by omega) g7 (by omega) w1
   obtain⟨F0,hF0⟩:∃ F0,F0=Al.flatL (l.take i):=⟨_,rfl⟩
   obtain⟨FB,hFB⟩:∃ FB,FB=Al.flatL s.body:=⟨_,rfl⟩
   obtain⟨FE,hFE⟩:∃ FE,FE=Al.flatL s.els:=⟨_,rfl⟩
   rw [<-hF0] at hln hrow
   rw [<-hFB] at hln HD1
   rw [<-hFE] at hln HD2
   replace hF0:=Lib.hid hF0
   replace hFB:=Lib.hid hFB
   replace hFE:=Lib.hid hFE
   have r0:(0:Int)<=(i:Int):=by omega
   have r1:(i:Int)<(l.length:Int):=by omega
   have r2:decide ((i:Int)<(l.length:Int))=true:=decide_eq_true r1
   obtain⟨cs0,hown0,hcs0⟩:=hrow
   have hsz:w.heap.size<=wr.heap.size:=hR.size
   have own1:=hown0.alloc (.cells (stmtV s (.slice A6 s.body.length c6) (.slice A7 s.els.length c7)) 66)
   have src1:(wr.alloc (.cells (stmtV s (.slice A6 s.body.length c6) (.slice A7 s.els.length c7)) 66)).ownsRow w.heap.size 66 8 (.slice (some ⟨wr.heap.size,0,none⟩) 1 1) 1 (stmtV s (.slice A6 s.body.length c6) (.slice A7 s.els.length c7)).toList:=
    ⟨rfl,.inr ⟨wr.heap.size,1,_,rfl,hsz,heap_alloc_new _ _,by omega,by unfold maxLen;omega,rfl,rfl⟩⟩
   have bl1:Below w.heap.size w (wr.alloc (.cells (stmtV s (.slice A6 s.body.length c6) (.slice A7 s.els.length c7)) 66)):=hR.alloc hsz _
   have cs1:=CellsS.single l6 g6 l7 g7
   have one1:=cs1.one
   clear hdb hds hdn HR
   unfold stmtV at own1 src1 bl1 cs1 one1
   go_wp2_with (first
    |(at_builtin;refine append_row rfl (.tmp 11) (.tmp 16) 25 rfl w.heap.size 66 i0 _ 8 96 Tryz.underlying25 hi0 iz0 iz1 iz2 rfl (by omega) _ _ _ rfl own1 w.heap.size _ _ _ rfl src1 one1 (by unfold maxLen;omega) (by omega) (by simp;omega) ?_;intro v1 w1 hown1 hgrow1;obtain⟨sa1,sc1,rfl⟩:=own_slice hown1;have hb1:=below_grown2 bl1 hgrow1 (fun k hk=>(own1.lt k hk).1) (by simp;omega);have hc1:=hcs0.append cs1;have hBB:=hB.trans (lower_below hb1 hB.size);have e6:=D6 _ hBB;clear own1 src1 bl1 d0 d1 d2 d3 d4 d5 d6 d7)
    |(go_at_call 20;refine (HD1 w1 hBB).mono ?_;rintro e w2 ⟨v2,rfl,⟨cs2,ho2,hc2⟩,hb2⟩;obtain⟨sa2,sc2,rfl⟩:=own_slice ho2;have hown2:=own_of hown1 fun k hk=>hb2.block k (hown1.lt k hk).2;have hb3:=hb1.trans (lower_below hb2 hb1.size);have hBB2:=hB.trans (lower_below hb3 hB.size);have one2:=hc2.one;clear e6 HD1)
    |(at_builtin;refine append_row rfl (.tmp 18) (.tmp 24) 25 rfl w.heap.size 66 i0 _ 8 96 Tryz.underlying25 hi0 iz0 iz1 iz2 rfl (by omega) _ _ _ rfl hown2 w1.heap.size _ _ _ rfl ho2 one2 (by unfold maxLen;omega) (by omega) hb3.size ?_;intro v3 w3 hown3 hgrow3;obtain⟨sa3,sc3,rfl⟩:=own_slice hown3;have hb4:=below_grown2 hb3 hgrow3 (fun k hk=>(hown2.lt k hk).1) hb3.size;have hc3:=hc1.append hc2;have hBB3:=hB.trans (lower_below hb4 hB.size);have e7:=D7 _ hBB3;clear ho2 hown2 hb3)
    |(go_at_call 20;refine (HD2 w3 hBB3).mono ?_;rintro e w4 ⟨v4,rfl,⟨cs4,ho4,hc4⟩,hb5⟩;obtain⟨sa4,sc4,rfl⟩:=own_slice ho4;have hown4:=own_of hown3 fun k hk=>hb5.block k (hown3.lt k hk).2;have hb6:=hb4.trans (lower_below hb5 hb4.size);have one4:=hc4.one;clear e7 HD2)
    |(at_builtin;refine append_row rfl (.tmp 26) (.tmp 32) 25 rfl w.heap.size 66 i0 _ 8 96 Tryz.underlying25 hi0 iz0 iz1 iz2 rfl (by omega) _ _ _ rfl hown4 w3.heap.size _ _ _ rfl ho4 one4 (by unfold maxLen;omega) (by omega) hb6.size ?_;intro v5 w5 hown5 hgrow5;have hb7:=below_grown2 hb6 hgrow5 (fun k hk=>(hown4.lt k hk).1) hb6.size;have hc5:=hc3.append hc4;clear ho4 hown4 hb6))
   have HN:Hid (RowS W0 w5 w.heap.size v5 (Al.flatL (l.take (i+1)))/\Below w.heap.size w w5):=by
    refine show _/\_ from⟨?_,hb7⟩
    rw [show Al.flatL (l.take (i+1))=_ from hnx,<-(show F0=_ from hF0),<-(show FB=_ from hFB),<-(show FE=_ from hFE)]
    refine⟨_,?_,hc5⟩
    have e:(F0++[s]++FB++FE).length=F0.length+1+FB.length+FE.length:=by simp only [List.length_append,List.length_cons,List.length_nil]
    rw [e]
    exact hown5
   go_roundg k1
   case measure=>omega
   case rel=>exact⟨i+1,by simp,by omega,by omega,HN⟩
  ·have hie:i=l.length:=by omega
   have t1:decide ((i:Int)<(l.length:Int))=false:=by simp;omega
   have e:l.take i=l:=by rw [hie,List.take_length]
   rw [e] at hrow
   go_wp2_with fail
   exact bodyPost_ret (v:=u3) (by simp [results,Tryz.results20,go_sem]) rfl ⟨u3,rfl,hrow,hR⟩
theorem flat_all {W0:World}:∀ (m:Nat),FlatC W0 m
 |0=>flat_step (fun h0=>absurd h0 (by omega))
 |m+1=>flat_step (fun _=>flat_all m)
end Go.Proofs.YtkplfaionpplaaaGreatDoor
namespace Go.Proofs.YtkplfaionpplaaaGreatDoor
open Go.RowKit
def leakCells (l:Al.Leak):List Value:=[.int .i64 l.kind,.int .i64 l.at_]
def leaksV (L:List Al.Leak):List Value:=L.flatMap leakCells
end Go.Proofs.YtkplfaionpplaaaGreatDoor
namespace Go.Proofs.YtkplfaionpplaaaGreatDoor.Al
def wS (f:List Stmt->Int)(s:Stmt):Int:=
 (if s.op=7 then 8 else 1)+min (f s.body+f s.els) 1000 * (if s.op=15\/s.op=16 then max (min s.k 1000) 1 else 1)
def goW (f:List Stmt->Int):List Stmt->Int->Int
 |[],n=>n
 |s :: l,n=>if n<1000 then goW f l (n+wS f s) else n
def workF:Nat->List Stmt->Int
 |0,_=>1000
 |d+1,l=>min (goW (workF d) l 0) 1000
theorem wS_pos {f:List Stmt->Int}(hf:∀ l,0<=f l)(s:Stmt):1<=wS f s:=by
 unfold wS
 have h1:=hf s.body
 have h2:=hf s.els
 have:0<=min (f s.body+f s.els) 1000 * (if s.op=15\/s.op=16 then max (min s.k 1000) 1 else 1):=Int.mul_nonneg (by omega) (by split<;> omega)
 split<;> omega
theorem goW_ge {f:List Stmt->Int}(hf:∀ l,0<=f l):∀ (l:List Stmt) (n:Int),n<=goW f l n
 |[],n=>Int.le_refl _
 |s :: l,n=>by
  unfold goW
  split
  ·have:=goW_ge hf l (n+wS f s)
   have:=wS_pos hf s
   omega
  ·exact Int.le_refl _
theorem workF_nonneg:∀ (d:Nat) (l:List Stmt),0<=workF d l
 |0,_=>by unfold workF;decide
 |d+1,l=>by
  unfold workF
  have:=goW_ge (workF_nonneg d) l 0
  omega
theorem workF_le (d:Nat)(l:List Stmt):workF d l<=1000:=by cases d<;> unfold workF<;> omega
theorem flat_self (s:Stmt):s∈flatS s:=by cases s;simp [flatS]
theorem flat_bodyS {s t:Stmt}(h:t∈flatL s.body):t∈flatS s:=by cases s;simp only [flatS];exact List.mem_cons_of_mem _ (List.mem_append_left _ h)
end Go.Proofs.YtkplfaionpplaaaGreatDoor.Al
namespace Go.Proofs.YtkplfaionpplaaaGreatDoor
open Go.RowKit Go.Proofs.YtkplfaionpplaaaGreatDoorW.PrintWords
theorem own_apart {w:World}{b1:Nat}{e t:TypeId}{z1 z2:Nat}{v u:Value}{n m:Nat}{xs ys:List Value}{w2:World}{B:Nat}(h1:w.ownsRow b1 e z1 v n xs)(hB:B=w.heap.size)(h2:w2.ownsRow B t z2 u m ys):∀ k,u.ownBlock=some k->v.ownBlock≠some k:=
 fun k hk hv=>by have:=(h1.lt k hv).2;have:=(h2.lt k hk).1;omega
theorem own_ne_keep {w w':World}{b2:Nat}{t:TypeId}{z2:Nat}{v u:Value}{m:Nat}{ys:List Value}(h2:w.ownsRow b2 t z2 u m ys){b1:Nat}{e:TypeId}{z1 n:Nat}{xs:List Value}(h1:w.ownsRow b1 e z1 v n xs)(hg:w'=w\/w.grownBy w' v.ownBlock)(hs:∀ k,u.ownBlock=some k->v.ownBlock≠some k):w'.ownsRow b2 t z2 u m ys:=by
 rcases hg with rfl|hg
 ·exact h2
 ·exact own_of h2 fun k hk=>hg.block k (h2.lt k hk).2 (Ne.symm (hs k hk))
def flatOk:Nat->List Al.Stmt->Bool
 |0,_=>false
 |d+1,l=>decide (l.length<=30) && (l.all (fun s=>flatOk d s.body && flatOk d s.els) && decide ((Al.flatL l).length<=30))
theorem flatOk_len {d:Nat}{l:List Al.Stmt}(h:flatOk d l=true):(Al.flatL l).length<=30:=by
 cases d with
 |zero=>cases h
 |succ d=>unfold flatOk at h;simp at h;exact h.2.2
def FlatMC (W0:World)(d:Nat):Prop:=∀ (l:List Al.Stmt) (A:Option Addr) (cap:Nat) (dd:Int),dd=(d:Int) - 1->kStmt.C W0 A l.length l->∀ w,Below W0.heap.size W0 w->
 Calls Tryz.prog 63 #[.slice A l.length cap,.int .i64 30,.int .i64 dd] w fun e w'=>∃ v,e= .returned (.tuple #[v,.bool (flatOk d l)])/\(flatOk d l=true->RowS W0 w' w.heap.size v (Al.flatL l))/\Below w.heap.size w w'
theorem flatm_neg {W0:World}:FlatMC W0 0:=by
 intro l A cap dd hdd hl w hB
 obtain⟨R,hR0⟩:∃ R,R=flatOk 0 l:=⟨_,rfl⟩
 rw [<-hR0]
 have hRv:=Lib.hid (hR0.trans (show flatOk 0 l=false from rfl))
 clear hR0
 have t0:decide (dd<0)=true:=decide_eq_true (by omega)
 clear hdd
 by_cases c:(30:Int)<l.length
 ·have t1:decide ((30:Int)<(l.length:Int))=true:=decide_eq_true c
  go_enter Tryz.func63,Tryz.ntmps63
  go_wp2_with fail
  exact bodyPost_ret (v:= .tuple #[.slice none 0 0,.bool false]) (by simp [results,Tryz.results63,go_sem]) rfl ⟨_,by rw [show R=false from hRv],(fun h=>by rw [show R=false from hRv] at h;cases h),Below.refl _ _⟩
 ·have t1:decide ((30:Int)<(l.length:Int))=false:=decide_eq_false c
  go_enter Tryz.func63,Tryz.ntmps63
  go_wp2_with fail
  exact bodyPost_ret (v:= .tuple #[.slice none 0 0,.bool false]) (by simp [results,Tryz.results63,go_sem]) rfl ⟨_,by rw [show R=false from hRv],(fun h=>by rw [show R=false from hRv] at h;cases h),Below.refl _ _⟩
theorem flatm_step {W0:World}{d:Nat}(hd13:d<=1000)(hm:FlatMC W0 d):FlatMC W0 (d+1):=by
 intro l A cap dd hdd hl w hB
 obtain rfl:dd=(d:Int):=by omega
 clear hdd
 obtain⟨R,hR0⟩:∃ R,R=flatOk (d+1) l:=⟨_,rfl⟩
 rw [<-hR0]
 obtain⟨i0,hi0,iz0,iz1,iz2⟩:=info_parts Tryz.infoStmt
 have td:decide ((d:Int)<0)=false:=decide_eq_false (by omega)
 by_cases c:(30:Int)<l.length
 ·have t1:decide ((30:Int)<(l.length:Int))=true:=decide_eq_true c
  have hRv:R=false:=by rw [hR0];unfold flatOk;rw [decide_eq_false (by omega)];rfl
  replace hRv:=Lib.hid hRv
  clear hR0
  go_enter Tryz.func63,Tryz.ntmps63
  go_wp2_with fail
  exact bodyPost_ret (v:= .tuple #[.slice none 0 0,.bool false]) (by simp [results,Tryz.results63,go_sem]) rfl ⟨_,by rw [show R=false from hRv],(fun h=>by rw [show R=false from hRv] at h;cases h),Below.refl _ _⟩
 have t1:decide ((30:Int)<(l.length:Int))=false:=decide_eq_false c
 have hl30:l.length<=30:=by omega
 unfold flatOk at hR0
 rw [decide_eq_true hl30,Bool.true_and] at hR0
 have HL:=Lib.hid hl
 have HB:=Lib.hid hB
 have HR0:=Lib.hid hR0
 clear hl hB hR0
 go_enter Tryz.func63,Tryz.ntmps63
 go_wp2_with fail
 go_loopg [8,9,10,11,12,13] (l.length+1) (fun gk v8 v9 v10 v11 v12 v13 w'=>∃ i:Nat,v9= .int .i64 i/\i+gk=l.length+1/\i<=l.length/\Hid ((l.take i).all (fun s=>flatOk d s.body && flatOk d s.els)=true/\(Al.flatL (l.take i)).length<=30/\RowS W0 w' w.heap.size v8 (Al.flatL (l.take i))/\Below w.heap.size w w'))
 case atStart=>exact⟨0,rfl,by omega,by omega,show _/\_ from⟨by simp,by simp [Al.flatL],⟨[],by simpa [Al.flatL] using World.ownsRow_nil _ _ _ _,by simp [Al.flatL,CellsS]⟩,Below.refl _ _⟩⟩
 case round=>
  obtain⟨i,rfl,hg,hi2,HR⟩:=hrel
  obtain⟨hall,hle,hrow,hR⟩:=show (l.take i).all (fun s=>flatOk d s.body && flatOk d s.els)=true/\(Al.flatL (l.take i)).length<=30/\RowS W0 wr w.heap.size u8 (Al.flatL (l.take i))/\Below w.heap.size w wr from HR
  have hB:=show Below W0.heap.size W0 w from HB
  have hB1:Below W0.heap.size W0 wr:=hB.trans (lower_below hR hB.size)
  by_cases hil:i<l.length
  ·obtain⟨k1,rfl⟩:∃ k1,gk=k1+1:=⟨gk - 1,by omega⟩
   obtain⟨ad,A6,c6,A7,c7,rfl,d0,d1,d2,d3,d4,d5,d6,d7,l6,g6,l7,g7⟩:=at_T902 (show kStmt.C W0 A l.length l from HL) (i:Int) (by omega) (by omega)
   have D6:=fun w' (hb:Below W0.heap.size W0 w')=>cell_since hb d6
   have D7:=fun w' (hb:Below W0.heap.size W0 w')=>cell_since hb d7
   replace d0:=cell_since hB1 d0
   replace d1:=cell_since hB1 d1
   replace d2:=cell_since hB1 d2
   replace d3:=cell_since hB1 d3
   replace d4:=cell_since hB1 d4
   replace d5:=cell_since hB1 d5
   replace d6:=cell_since hB1 d6
   replace d7:=cell_since hB1 d7
   simp only [Int.toNat_natCast] at d0 d1 d2 d3 d4 d5 d6 d7 D6 D7
   obtain⟨s,hs⟩:∃ s,s=rd_T902 l (i:Int):=⟨_,rfl⟩
   simp only [<-hs] at d0 d1 d2 d3 d4 d5 d6 d7 l6 g6 l7 g7 D6 D7
   rw [rd_get l i hil] at hs
   have hnx:Al.flatL (l.take (i+1))=Al.flatL (l.take i)++[s]++Al.flatL s.body++Al.flatL s.els:=by
    rw [take_succ l i hil,flatL_append,flatL_one,<-hs,flatS_eq];simp
   have hall2:(l.take (i+1)).all (fun s=>flatOk d s.body && flatOk d s.els)=(flatOk d s.body && flatOk d s.els):=by
    rw [take_succ l i hil,List.all_append,hall,<-hs];simp
   have hmem:s∈l:=by rw [hs];exact List.getElem_mem _
   have hallF:(flatOk d s.body && flatOk d s.els)=false->R=false:=fun h=>by
    rw [show R=_ from HR0]
    have:l.all (fun s=>flatOk d s.body && flatOk d s.els)=false:=List.all_eq_false.2 ⟨s,hmem,by rw [h];decide⟩
    rw [this];rfl
   have hlenF:30<(Al.flatL (l.take (i+1))).length->R=false:=fun h=>by
    rw [show R=_ from HR0]
    have e:Al.flatL l=Al.flatL (l.take (i+1))++Al.flatL (l.drop (i+1)):=by rw [<-flatL_append,List.take_append_drop]
    have e2:=congrArg List.length e
    rw [List.length_append] at e2
    rw [decide_eq_false (show¬(Al.flatL l).length<=30 by omega),Bool.and_false]
   replace hs:=Lib.hid hs
   clear hmem hall
   have HD1:=fun w1=>hm s.body A6 c6 ((d:Int) - 1) rfl g6 w1
   have HD2:=fun w1=>hm s.els A7 c7 ((d:Int) - 1) rfl g7 w1
   obtain⟨F0,hF0⟩:∃ F0,F0=Al.flatL (l.take i):=⟨_,rfl⟩
   obtain⟨FB,hFB⟩:∃ FB,FB=Al.flatL s.body:=⟨_,rfl⟩
   obtain⟨FE,hFE⟩:∃ FE,FE=Al.flatL s.els:=⟨_,rfl⟩
   obtain⟨o1,ho1⟩:∃ o1,o1=flatOk d s.body:=⟨_,rfl⟩
   obtain⟨o2,ho2⟩:∃ o2,o2=flatOk d s.els:=⟨_,rfl⟩
   have hFB30:o1=true->FB.length<=30:=fun h=>by rw [hFB];exact flatOk_len (ho1.symm.trans h)
   have hFE30:o2=true->FE.length<=30:=fun h=>by rw [hFE];exact flatOk_len (ho2.symm.trans h)
   rw [<-hF0] at hrow hnx hle
   rw [<-hFB] at HD1 hnx
   rw [<-hFE] at HD2 hnx
   rw [<-ho1] at HD1 hall2 hallF
   rw [<-ho2] at HD2 hall2 hallF
   replace hF0:=Lib.hid hF0
   replace hFB:=Lib.hid hFB
   replace hFE:=Lib.hid hFE
   clear ho1 ho2
   replace hnx:=Lib.hid hnx
   replace hall2:=Lib.hid hall2
   replace hallF:=Lib.hid hallF
   replace hlenF:=Lib.hid hlenF
   have r0:(0:Int)<=(i:Int):=by omega
   have r1:(i:Int)<(l.length:Int):=by omega
   have r2:decide ((i:Int)<(l.length:Int))=true:=decide_eq_true r1
   have hw1:wrap64 ((d:Int) - 1)=(d:Int) - 1:=by unfold wrap64;omega
   have hw2:IntKind.i64.wrap ((d:Int) - 1)=(d:Int) - 1:=IntWalk.i64_in _ (by omega)
   obtain⟨cs0,hown0,hcs0⟩:=hrow
   have hsz:w.heap.size<=wr.heap.size:=hR.size
   have own1:=hown0.alloc (.cells (stmtV s (.slice A6 s.body.length c6) (.slice A7 s.els.length c7)) 66)
   have src1:(wr.alloc (.cells (stmtV s (.slice A6 s.body.length c6) (.slice A7 s.els.length c7)) 66)).ownsRow w.heap.size 66 8 (.slice (some ⟨wr.heap.size,0,none⟩) 1 1) 1 (stmtV s (.slice A6 s.body.length c6) (.slice A7 s.els.length c7)).toList:=
    ⟨rfl,.inr ⟨wr.heap.size,1,_,rfl,hsz,heap_alloc_new _ _,by omega,by unfold maxLen;omega,rfl,rfl⟩⟩
   have bl1:Below w.heap.size w (wr.alloc (.cells (stmtV s (.slice A6 s.body.length c6) (.slice A7 s.els.length c7)) 66)):=hR.alloc hsz _
   have cs1:=CellsS.single l6 g6 l7 g7
   have one1:=cs1.one
   clear HR
   unfold stmtV at own1 src1 bl1 cs1 one1
   by_cases ho:(o1 && o2)=false
   ·have hRv:=Lib.hid ((show (o1 && o2)=false->R=false from hallF) ho)
    clear hallF hall2 hlenF hFB30 hFE30
    cases o1
    ·go_wp2_with (first
    |(at_builtin;refine append_row rfl (.tmp 28) (.tmp 33) 25 rfl w.heap.size 66 i0 _ 8 96 Tryz.underlying25 hi0 iz0 iz1 iz2 rfl (by omega) _ _ _ rfl own1 w.heap.size _ _ _ rfl src1 one1 (by unfold maxLen;omega) (by omega) (by simp;omega) ?_;intro v1 w1 hown1 hgrow1;obtain⟨sa1,sc1,rfl⟩:=own_slice hown1;have hb1:=below_grown2 bl1 hgrow1 (fun k hk=>(own1.lt k hk).1) (by simp;omega);have hc1:=hcs0.append cs1;have hBB:=hB.trans (lower_below hb1 hB.size);have e6:=D6 _ hBB;clear own1 src1 bl1 d0 d1 d2 d3 d4 d5 d6 d7)
    |(go_at_call 63;refine (HD1 w1 hBB).mono ?_;rintro e w2 ⟨v2,rfl,hr2,hb2⟩;have hown2:=own_of hown1 fun k hk=>hb2.block k (hown1.lt k hk).2;have hb3:=hb1.trans (lower_below hb2 hb1.size);have hBB2:=hB.trans (lower_below hb3 hB.size);have e7:=D7 _ hBB2;clear e6 HD1)
    |(go_at_call 63;refine (HD2 w2 hBB2).mono ?_;rintro e w4 ⟨v4,rfl,hr4,hb5⟩;have hown4:=own_of hown2 fun k hk=>hb5.block k (hown2.lt k hk).2;have hb6:=hb3.trans (lower_below hb5 hb3.size);clear e7 HD2))
     exact bodyPost_ret (v:= .tuple #[.slice none 0 0,.bool false]) (by simp [results,Tryz.results63,go_sem]) rfl ⟨_,by rw [show R=false from hRv],(fun h=>by rw [show R=false from hRv] at h;cases h),hb6⟩
    ·cases o2
     ·go_wp2_with (first
    |(at_builtin;refine append_row rfl (.tmp 28) (.tmp 33) 25 rfl w.heap.size 66 i0 _ 8 96 Tryz.underlying25 hi0 iz0 iz1 iz2 rfl (by omega) _ _ _ rfl own1 w.heap.size _ _ _ rfl src1 one1 (by unfold maxLen;omega) (by omega) (by simp;omega) ?_;intro v1 w1 hown1 hgrow1;obtain⟨sa1,sc1,rfl⟩:=own_slice hown1;have hb1:=below_grown2 bl1 hgrow1 (fun k hk=>(own1.lt k hk).1) (by simp;omega);have hc1:=hcs0.append cs1;have hBB:=hB.trans (lower_below hb1 hB.size);have e6:=D6 _ hBB;clear own1 src1 bl1 d0 d1 d2 d3 d4 d5 d6 d7)
    |(go_at_call 63;refine (HD1 w1 hBB).mono ?_;rintro e w2 ⟨v2,rfl,hr2,hb2⟩;have hown2:=own_of hown1 fun k hk=>hb2.block k (hown1.lt k hk).2;have hb3:=hb1.trans (lower_below hb2 hb1.size);have hBB2:=hB.trans (lower_below hb3 hB.size);have e7:=D7 _ hBB2;clear e6 HD1)
    |(go_at_call 63;refine (HD2 w2 hBB2).mono ?_;rintro e w4 ⟨v4,rfl,hr4,hb5⟩;have hown4:=own_of hown2 fun k hk=>hb5.block k (hown2.lt k hk).2;have hb6:=hb3.trans (lower_below hb5 hb3.size);clear e7 HD2))
      exact bodyPost_ret (v:= .tuple #[.slice none 0 0,.bool false]) (by simp [results,Tryz.results63,go_sem]) rfl ⟨_,by rw [show R=false from hRv],(fun h=>by rw [show R=false from hRv] at h;cases h),hb6⟩
     ·cases ho
   obtain⟨rfl,rfl⟩:o1=true/\o2=true:=by cases o1<;> cases o2<;> simp at ho<;> exact⟨rfl,rfl⟩
   clear ho
   have hFBl:=hFB30 rfl
   have hFEl:=hFE30 rfl
   clear hFB30 hFE30
   obtain⟨n5,hn5⟩:∃ n,n=F0.length+1+FB.length+FE.length:=⟨_,rfl⟩
   have hlt:(Al.flatL (l.take (i+1))).length=n5:=by rw [show Al.flatL (l.take (i+1))=_ from hnx,hn5];simp only [List.length_append,List.length_cons,List.length_nil]
   have hn5l:n5<=91:=by omega
   replace hn5:=Lib.hid hn5
   by_cases c5:(30:Int)<n5
   ·have t5:decide ((30:Int)<(n5:Int))=true:=decide_eq_true c5
    have hRv:=Lib.hid ((show 30<(Al.flatL (l.take (i+1))).length->R=false from hlenF) (by omega))
    replace hlt:=Lib.hid hlt
    clear hlenF hallF hall2
    go_wp2_with (first
    |(at_builtin;refine append_row rfl (.tmp 28) (.tmp 33) 25 rfl w.heap.size 66 i0 _ 8 96 Tryz.underlying25 hi0 iz0 iz1 iz2 rfl (by omega) _ _ _ rfl own1 w.heap.size _ _ _ rfl src1 one1 (by unfold maxLen;omega) (by omega) (by simp;omega) ?_;intro v1 w1 hown1 hgrow1;obtain⟨sa1,sc1,rfl⟩:=own_slice hown1;have hb1:=below_grown2 bl1 hgrow1 (fun k hk=>(own1.lt k hk).1) (by simp;omega);have hc1:=hcs0.append cs1;have hBB:=hB.trans (lower_below hb1 hB.size);have e6:=D6 _ hBB;clear own1 src1 bl1 d0 d1 d2 d3 d4 d5 d6 d7)
    |(go_at_call 63;refine (HD1 w1 hBB).mono ?_;rintro e w2 ⟨v2,rfl,hr2,hb2⟩;obtain⟨cs2,ho2',hc2⟩:=hr2 (by trivial);obtain⟨sa2,sc2,rfl⟩:=own_slice ho2';have one2:=hc2.one;have hown2:=own_of hown1 fun k hk=>hb2.block k (hown1.lt k hk).2;have hb3:=hb1.trans (lower_below hb2 hb1.size);have hBB2:=hB.trans (lower_below hb3 hB.size);have e7:=D7 _ hBB2;clear e6 HD1)
    |(go_at_call 63;refine (HD2 w2 hBB2).mono ?_;rintro e w4 ⟨v4,rfl,hr4,hb5⟩;obtain⟨cs4,ho4,hc4⟩:=hr4 (by trivial);obtain⟨sa4,sc4,rfl⟩:=own_slice ho4;have one4:=hc4.one;have ho2:=own_of ho2' fun k hk=>hb5.block k (ho2'.lt k hk).2;have hown6:=own_of hown2 fun k hk=>hb5.block k (hown2.lt k hk).2;have hsep:=own_apart hown2 rfl ho4;have hb6:=hb3.trans (lower_below hb5 hb3.size);clear e7 HD2)
    |(at_builtin;refine append_row rfl (.tmp 65) (.tmp 66) 25 rfl w.heap.size 66 i0 _ 8 96 Tryz.underlying25 hi0 iz0 iz1 iz2 rfl (by omega) _ _ _ rfl hown6 w1.heap.size _ _ _ rfl ho2 one2 (by unfold maxLen;omega) (by omega) hb6.size ?_;intro v3 w3 hown3 hgrow3;have hne:=own_ne_keep ho4 hown6 hgrow3 hsep;have hb7:=below_grown2 hb6 hgrow3 (fun k hk=>(hown6.lt k hk).1) hb6.size;have hc3:=hc1.append hc2;clear ho2 hown6)
    |(at_builtin;refine append_row rfl (.tmp 67) (.tmp 68) 25 rfl w.heap.size 66 i0 _ 8 96 Tryz.underlying25 hi0 iz0 iz1 iz2 rfl (by omega) _ _ _ rfl hown3 w2.heap.size _ _ _ rfl hne one4 (by unfold maxLen;omega) (by omega) hb7.size ?_;intro v5 w5 hown5 hgrow5;have hb8:=below_grown2 hb7 hgrow5 (fun k hk=>(hown3.lt k hk).1) hb7.size;have hc5:=hc3.append hc4;obtain⟨sa5,sc5,hv5⟩:=own_slice hown5;rw [<-(show n5=_ from hn5)] at hv5 hown5;subst hv5;clear hown3 hne))
    exact bodyPost_ret (v:= .tuple #[.slice none 0 0,.bool false]) (by simp [results,Tryz.results63,go_sem]) rfl ⟨_,by rw [show R=false from hRv],(fun h=>by rw [show R=false from hRv] at h;cases h),hb8⟩
   have t5:decide ((30:Int)<(n5:Int))=false:=decide_eq_false c5
   have hle5:(Al.flatL (l.take (i+1))).length<=30:=by omega
   have hlt2:=Lib.hid hlt
   replace hle5:=Lib.hid hle5
   clear hlenF hallF hlt
   go_wp2_with (first
    |(at_builtin;refine append_row rfl (.tmp 28) (.tmp 33) 25 rfl w.heap.size 66 i0 _ 8 96 Tryz.underlying25 hi0 iz0 iz1 iz2 rfl (by omega) _ _ _ rfl own1 w.heap.size _ _ _ rfl src1 one1 (by unfold maxLen;omega) (by omega) (by simp;omega) ?_;intro v1 w1 hown1 hgrow1;obtain⟨sa1,sc1,rfl⟩:=own_slice hown1;have hb1:=below_grown2 bl1 hgrow1 (fun k hk=>(own1.lt k hk).1) (by simp;omega);have hc1:=hcs0.append cs1;have hBB:=hB.trans (lower_below hb1 hB.size);have e6:=D6 _ hBB;clear own1 src1 bl1 d0 d1 d2 d3 d4 d5 d6 d7)
    |(go_at_call 63;refine (HD1 w1 hBB).mono ?_;rintro e w2 ⟨v2,rfl,hr2,hb2⟩;obtain⟨cs2,ho2',hc2⟩:=hr2 (by trivial);obtain⟨sa2,sc2,rfl⟩:=own_slice ho2';have one2:=hc2.one;have hown2:=own_of hown1 fun k hk=>hb2.block k (hown1.lt k hk).2;have hb3:=hb1.trans (lower_below hb2 hb1.size);have hBB2:=hB.trans (lower_below hb3 hB.size);have e7:=D7 _ hBB2;clear e6 HD1)
    |(go_at_call 63;refine (HD2 w2 hBB2).mono ?_;rintro e w4 ⟨v4,rfl,hr4,hb5⟩;obtain⟨cs4,ho4,hc4⟩:=hr4 (by trivial);obtain⟨sa4,sc4,rfl⟩:=own_slice ho4;have one4:=hc4.one;have ho2:=own_of ho2' fun k hk=>hb5.block k (ho2'.lt k hk).2;have hown6:=own_of hown2 fun k hk=>hb5.block k (hown2.lt k hk).2;have hsep:=own_apart hown2 rfl ho4;have hb6:=hb3.trans (lower_below hb5 hb3.size);clear e7 HD2)
    |(at_builtin;refine append_row rfl (.tmp 65) (.tmp 66) 25 rfl w.heap.size 66 i0 _ 8 96 Tryz.underlying25 hi0 iz0 iz1 iz2 rfl (by omega) _ _ _ rfl hown6 w1.heap.size _ _ _ rfl ho2 one2 (by unfold maxLen;omega) (by omega) hb6.size ?_;intro v3 w3 hown3 hgrow3;have hne:=own_ne_keep ho4 hown6 hgrow3 hsep;have hb7:=below_grown2 hb6 hgrow3 (fun k hk=>(hown6.lt k hk).1) hb6.size;have hc3:=hc1.append hc2;clear ho2 hown6)
    |(at_builtin;refine append_row rfl (.tmp 67) (.tmp 68) 25 rfl w.heap.size 66 i0 _ 8 96 Tryz.underlying25 hi0 iz0 iz1 iz2 rfl (by omega) _ _ _ rfl hown3 w2.heap.size _ _ _ rfl hne one4 (by unfold maxLen;omega) (by omega) hb7.size ?_;intro v5 w5 hown5 hgrow5;have hb8:=below_grown2 hb7 hgrow5 (fun k hk=>(hown3.lt k hk).1) hb7.size;have hc5:=hc3.append hc4;obtain⟨sa5,sc5,hv5⟩:=own_slice hown5;rw [<-(show n5=_ from hn5)] at hv5 hown5;subst hv5;clear hown3 hne))
   have HN:Hid ((l.take (i+1)).all (fun s=>flatOk d s.body && flatOk d s.els)=true/\(Al.flatL (l.take (i+1))).length<=30/\RowS W0 w5 w.heap.size (.slice sa5 n5 sc5) (Al.flatL (l.take (i+1)))/\Below w.heap.size w w5):=by
    have hx:RowS W0 w5 w.heap.size (.slice sa5 n5 sc5) (Al.flatL (l.take (i+1))):=by
     generalize hcc:cs0++_++cs2++cs4=cs9 at hown5 hc5
     exact⟨cs9,by rw [show (Al.flatL (l.take (i+1))).length=n5 from hlt2];exact hown5,by rw [show Al.flatL (l.take (i+1))=_ from hnx];exact hc5⟩
    exact show _/\_ from⟨hall2,hle5,hx,hb8⟩
   go_roundg k1
   case measure=>omega
   case rel=>exact⟨i+1,by simp,by omega,by omega,HN⟩
  ·have hie:i=l.length:=by omega
   have t2:decide ((i:Int)<(l.length:Int))=false:=by simp;omega
   rw [show l.take i=l by rw [hie,List.take_length]] at hrow hall hle
   have hRv:R=true:=by rw [show R=_ from HR0,hall,decide_eq_true hle];rfl
   replace hRv:=Lib.hid hRv
   go_wp2_with fail
   exact bodyPost_ret (v:= .tuple #[u8,.bool true]) (by simp [results,Tryz.results63,go_sem]) rfl ⟨_,by rw [show R=true from hRv],fun _=>hrow,hR⟩
theorem flatm_all {W0:World}:∀ (d:Nat),d<=1000->FlatMC W0 d
 |0,_=>flatm_neg
 |d+1,h=>flatm_step (by omega) (flatm_all d (by omega))
end Go.Proofs.YtkplfaionpplaaaGreatDoor
