/- Part 18: B45, B46, B47, B48, B49, B52, P31. -/
import Derived.Test.YtkplfaionpplaaaGreatDoorK17
import Derived.Laws.AppendOwnNone
set_option maxRecDepth 100000
set_option maxHeartbeats 6400000
set_option linter.unusedVariables false
set_option linter.unusedSimpArgs false
namespace Go.Proofs.YtkplfaionpplaaaGreatDoor
open Go.RowKit
structure BI (w w':World)(kp ks:Nat)(p:Al.Prog)(Va Ab:Option Addr)(vc cb:Nat)(s:Al.Stmt)(x6 x7:Value)(a:Option Addr)(cap:Nat)(L:List Int):Prop where
 below:Below w.heap.size w w'
 P:PBox w' kp p Va Ab vc cb
 S:SB w' ks s x6 x7
 I:IntsAt w' (.slice a L.length cap) L
theorem BI.drewN {w w':World}{kp ks:Nat}{p:Al.Prog}{Va Ab:Option Addr}{vc cb:Nat}{s:Al.Stmt}{x6 x7:Value}{a:Option Addr}{cap:Nat}{L:List Int}(h:BI w w' kp ks p Va Ab vc cb s x6 x7 a cap L)(n:Nat):BI w (w'.drewN n) kp ks p Va Ab vc cb s x6 x7 a cap L:=
 ⟨Go.Proofs.YtkplfaionpplaaaGreatDoorW.PrintWords.pw_below_drewN h.below n,h.P,h.S,h.I⟩
theorem ints_get {w:World}{a:Option Addr}{cap:Nat}{L:List Int}(hI:IntsAt w (.slice a L.length cap) L){j:Nat}(hj:j<L.length):∃ ag,a=some ⟨ag,0,none⟩/\w.cell? ⟨ag,j,none⟩=some (.int .i64 L[j]):=by
 rcases hI with⟨h,h0⟩|⟨g,c,cur,h,h1,h2⟩
 ·subst h0;simp at hj
 ·simp only [Value.slice.injEq,true_and] at h
  exact⟨g,h.1,by rw [cell_blk h1,h2 j hj]⟩
def secOf (p:Al.Prog)(v:Int):Bool:=(rd_T901 p.vars v).secret
theorem ref_breaks {w:World}{p:Al.Prog}{Va Ab:Option Addr}{vc cb:Nat}(hp:PLies w p Va Ab vc cb)(s:Al.Stmt)(x6 x7:Value){g:Al.Has}(hg:Al.hasOf s.op=some g)(hr:∀ v∈Al.usesOf s,0<=v/\v<p.vars.length)(hd:g.d=true->0<=s.d/\s.d<p.vars.length):
  Calls Tryz.prog 88 #[progV p Va Ab vc cb,.agg (stmtV s x6 x7)] w fun e w'=>e= .returned (.bool (Al.breaksB p.vars s))/\Below w.heap.size w w':=by
 obtain⟨W,hW⟩:∃ W,W=(w.alloc (.cells #[.int .i64 p.q,.int .i64 p.n,.slice Va p.vars.length vc,.slice Ab p.body.length cb] 27)).alloc (.cells (stmtV s x6 x7) 66):=⟨_,rfl⟩
 obtain⟨kp,hkp⟩:∃ kp,kp=w.heap.size:=⟨_,rfl⟩
 obtain⟨ks,hks⟩:∃ ks,ks=kp+1:=⟨_,rfl⟩
 have hb0:Below w.heap.size w W:=by rw [hW];exact alloc_two _ _ _
 have hP:PBox W kp p Va Ab vc cb:=by rw [hW,hkp];exact alloc_blk _ (heap_alloc_new w _)
 have hS:SB W ks s x6 x7:=by rw [hW,hks,hkp];exact alloc_at _ _ _
 have hpl:=hp.below hb0
 have hLl:(Al.usesOf s).length<=3:=by
  unfold Al.usesOf;rw [hg]
  simp only [List.length_append]
  (repeat' split)<;> simp
 have hcl:s.op=12/\g.d=true\/s.op=13/\g.d=true\/(1<=s.op/\s.op<=11/\g.d=true)\/(14<=s.op/\s.op<=16/\g.d=false):=by
  have h:s.op=1\/s.op=2\/s.op=3\/s.op=4\/s.op=5\/s.op=6\/s.op=7\/s.op=8\/s.op=9\/s.op=10\/s.op=11\/s.op=12\/s.op=13\/s.op=14\/s.op=15\/s.op=16:=by
   refine Decidable.byContradiction fun hn=>?_
   simp only [not_or] at hn
   rw [none_of hn] at hg
   cases hg
  rcases h with h|h|h|h|h|h|h|h|h|h|h|h|h|h|h|h<;> rw [h] at hg<;> cases hg<;> simp [h]
 have hbr:Al.breaksB p.vars s=(if s.op=12 then false else if s.op=13 then !secOf p s.d else if 1<=s.op/\s.op<=11 then (Al.usesOf s).any (secOf p) && !secOf p s.d else (Al.usesOf s).any (secOf p)):=rfl
 obtain⟨L,hL⟩:∃ L,L=Al.usesOf s:=⟨_,rfl⟩
 have hgG:hasG s.op=g:=by unfold hasG;rw [hg];rfl
 have HU:=fun w0=>ref_uses w0 s x6 x7
 have HW:=fun w0=>ref_writes w0 s x6 x7
 rw [hgG] at HW
 rw [<-hL] at hr hLl hbr
 simp only [<-hL] at HU
 rw [hbr]
 obtain⟨R,hR⟩:∃ R,R=(if s.op=12 then false else if s.op=13 then !secOf p s.d else if 1<=s.op/\s.op<=11 then L.any (secOf p) && !secOf p s.d else L.any (secOf p)):=⟨_,rfl⟩
 rw [<-hR]
 replace hR:=Lib.hid hR
 clear hbr hgG hg hL
 unfold stmtV at HU HW
 obtain⟨s0,s1,s2,s3,s4,s5,s6,s7⟩:=hS.cells
 have hkpl:=blk_lt hP
 have hksl:=blk_lt hS
 go_enter Tryz.func88,Tryz.ntmps88
 unfold stmtV progV
 go_wp2_with fail
 have hWu:W=(w.alloc (.cells #[.int .i64 p.q,.int .i64 p.n,.slice Va p.vars.length vc,.slice Ab p.body.length cb] 27)).alloc (.cells #[.int .i64 s.op,.int .i64 s.d,.int .i64 s.a,.int .i64 s.b,.int .i64 s.c,.int .i64 s.k,x6,x7] 66):=hW
 rw [<-hWu]
 simp only [<-hkp,<-hks]
 clear hW hWu
 replace hkp:=Lib.hid hkp
 replace hks:=Lib.hid hks
 go_wp2_with (first|(go_at_call 129;refine (HU _).mono ?_;rintro e w1 ⟨v,rfl,hown,hb1⟩;obtain⟨a,cap,rfl⟩:=own_slice hown))
 have B1:BI w w1 kp ks p Va Ab vc cb s x6 x7 a cap L:=⟨hb0.trans (lower_below hb1 hb0.size),below_blk hb1 hP hkpl,below_blk hb1 hS hksl,own_ints hown⟩
 replace B1:=Lib.hid B1
 clear s0 s1 s2 s3 s4 s5 s6 s7 hkpl hksl hP hS hb0 hb1 hown HU hpl
 go_loopg [6,7] (L.length+1) (fun gk v6 v7 w'=>∃ j:Nat,v7= .int .i64 j/\v6= .bool ((L.take j).any (secOf p))/\j+gk=L.length+1/\j<=L.length/\Hid (BI w w' kp ks p Va Ab vc cb s x6 x7 a cap L))
 case atStart=>exact⟨0,rfl,by simp,by omega,by omega,B1⟩
 case round=>
  obtain⟨j,rfl,hac,hj,hj2,HB⟩:=hrel
  have B:=show BI w wr kp ks p Va Ab vc cb s x6 x7 a cap L from HB
  clear HB B1
  subst hac
  by_cases hjl:j<L.length
  ·obtain⟨k1,rfl⟩:∃ k1,gk=k1+1:=⟨gk - 1,by omega⟩
   have hnx:(L.take (j+1)).any (secOf p)=((L.take j).any (secOf p) || secOf p L[j]):=by rw [List.take_succ_eq_append_getElem hjl,List.any_append];simp
   have hrj:=hr L[j] (List.getElem_mem hjl)
   obtain⟨ag,he,hcell⟩:=ints_get B.I hjl
   obtain⟨x,hx⟩:∃ x,x=L[j]:=⟨_,rfl⟩
   rw [<-hx] at hrj hcell hnx
   replace hx:=Lib.hid hx
   obtain⟨ad,hva,kk0,kk⟩:=at_T901 hp.v x hrj.1 hrj.2
   have kd:=cell_since B.below kk
   have hr0:=hrj.1
   have hr1:=hrj.2
   have t1:decide ((j:Int)<(L.length:Int))=true:=by simp;omega
   have t2:(0:Int)<=(j:Int):=by omega
   have t3:(j:Int)<(L.length:Int):=by omega
   obtain⟨p0,p1,p2,p3⟩:=B.P.cells
   have BN:=fun n=>Lib.hid (B.drewN n)
   have B0:=Lib.hid B
   subst he hva
   clear B kk kk0
   rcases Bool.eq_false_or_eq_true ((L.take j).any (secOf p)) with hA|hA
   ·rw [hA] at hnx ⊢
    clear hA
    go_wp2_with fail
    go_big_quiet (fail)
    go_wp2_with fail
    go_roundg k1
    case measure=>omega
    case rel=>exact⟨j+1,by simp,by rw [hnx];rfl,by omega,by omega,BN _⟩
   ·rw [hA] at hnx ⊢
    clear hA
    go_wp2_with fail
    go_big_quiet (fail)
    go_wp2_with fail
    go_roundg k1
    case measure=>omega
    case rel=>exact⟨j+1,by simp,by rw [hnx];rfl,by omega,by omega,BN _⟩
  ·have hje:j=L.length:=by omega
   have t1:decide ((j:Int)<(L.length:Int))=false:=by simp;omega
   have htk:L.take j=L:=by rw [hje,List.take_length]
   rw [htk]
   have hS:=B.S
   have hbw:=B.below
   have hP:=B.P
   obtain⟨s0,s1,s2,s3,s4,s5,s6,s7⟩:=hS.cells
   have HWr:=HW wr
   clear B htk HW
   obtain⟨acc,hacc⟩:∃ acc,acc=L.any (secOf p):=⟨_,rfl⟩
   rw [<-hacc]
   have hR':R=(if s.op=12 then false else if s.op=13 then !secOf p s.d else if 1<=s.op/\s.op<=11 then acc && !secOf p s.d else acc):=by rw [hacc];exact hR
   clear hacc hR
   rcases hcl with⟨h,hgd⟩|⟨h,hgd⟩|⟨h0,h1,hgd⟩|⟨h0,h1,hgd⟩
   ·simp only [hgd,if_true] at HWr
    rw [if_pos h] at hR'
    replace h:(s.op == 12)=true:=by rw [h];rfl
    clear hgd
    have HR':=Lib.hid hR'
    clear hR'
    go_wp2_with (first|(go_at_call 131;refine HWr.mono ?_;rintro e w2 ⟨rfl,hb2⟩;have P2:PBox w2 kp p Va Ab vc cb:=below_blk hb2 hP (blk_lt hP);have S2:SB w2 ks s x6 x7:=below_blk hb2 hS (blk_lt hS);obtain⟨p0,p1,p2,p3⟩:=P2.cells;clear s0 s1 s2 s3 s4 s5 s6 s7;obtain⟨s0,s1,s2,s3,s4,s5,s6,s7⟩:=S2.cells;have hb3:=hbw.trans (lower_below hb2 hbw.size)))
    exact bodyPost_ret (v:= .bool false) (by simp [results,Tryz.results88,go_sem]) rfl ⟨by rw [show R=_ from HR']<;> try rfl,hb3⟩
   ·simp only [hgd,if_true] at HWr
    rw [if_neg (by omega),if_pos h] at hR'
    obtain⟨hd0,hd1⟩:=hd hgd
    obtain⟨ad,rfl,kk0,kk⟩:=at_T901 hp.v s.d hd0 hd1
    have kd:=fun (w0:World) (hb:Below w.heap.size w w0)=>cell_since hb kk
    have z12:(s.op == 12)=false:=beq_false_of_ne (by omega)
    replace h:(s.op == 13)=true:=by rw [h];rfl
    clear hgd
    have HR':=Lib.hid hR'
    clear hR'
    go_wp2_with (first|(go_at_call 131;refine HWr.mono ?_;rintro e w2 ⟨rfl,hb2⟩;have P2:PBox w2 kp p (some ad) Ab vc cb:=below_blk hb2 hP (blk_lt hP);have S2:SB w2 ks s x6 x7:=below_blk hb2 hS (blk_lt hS);obtain⟨p0,p1,p2,p3⟩:=P2.cells;clear s0 s1 s2 s3 s4 s5 s6 s7;obtain⟨s0,s1,s2,s3,s4,s5,s6,s7⟩:=S2.cells;have hb3:=hbw.trans (lower_below hb2 hbw.size);have kd2:=kd w2 hb3))
    exact bodyPost_ret (v:= .bool (!(rd_T901 p.vars s.d).secret)) (by simp [results,Tryz.results88,go_sem]) rfl ⟨by rw [show R=_ from HR']<;> try rfl,hb3⟩
   ·simp only [hgd,if_true] at HWr
    rw [if_neg (by omega),if_neg (by omega),if_pos ⟨h0,h1⟩] at hR'
    obtain⟨hd0,hd1⟩:=hd hgd
    obtain⟨ad,rfl,kk0,kk⟩:=at_T901 hp.v s.d hd0 hd1
    have kd:=fun (w0:World) (hb:Below w.heap.size w w0)=>cell_since hb kk
    have z12:(s.op == 12)=false:=beq_false_of_ne (by omega)
    have z13:(s.op == 13)=false:=beq_false_of_ne (by omega)
    clear hgd
    cases acc
    ·have HR':=Lib.hid hR'
     clear hR'
     go_wp2_with (first|(go_at_call 131;refine HWr.mono ?_;rintro e w2 ⟨rfl,hb2⟩;have P2:PBox w2 kp p (some ad) Ab vc cb:=below_blk hb2 hP (blk_lt hP);have S2:SB w2 ks s x6 x7:=below_blk hb2 hS (blk_lt hS);obtain⟨p0,p1,p2,p3⟩:=P2.cells;clear s0 s1 s2 s3 s4 s5 s6 s7;obtain⟨s0,s1,s2,s3,s4,s5,s6,s7⟩:=S2.cells;have hb3:=hbw.trans (lower_below hb2 hbw.size);have kd2:=kd w2 hb3))
     exact bodyPost_ret (v:= .bool false) (by simp [results,Tryz.results88,go_sem]) rfl ⟨by rw [show R=_ from HR']<;> try rfl,hb3⟩
    ·have HR':=Lib.hid hR'
     clear hR'
     go_wp2_with (first|(go_at_call 131;refine HWr.mono ?_;rintro e w2 ⟨rfl,hb2⟩;have P2:PBox w2 kp p (some ad) Ab vc cb:=below_blk hb2 hP (blk_lt hP);have S2:SB w2 ks s x6 x7:=below_blk hb2 hS (blk_lt hS);obtain⟨p0,p1,p2,p3⟩:=P2.cells;clear s0 s1 s2 s3 s4 s5 s6 s7;obtain⟨s0,s1,s2,s3,s4,s5,s6,s7⟩:=S2.cells;have hb3:=hbw.trans (lower_below hb2 hbw.size);have kd2:=kd w2 hb3))
     exact bodyPost_ret (v:= .bool (!(rd_T901 p.vars s.d).secret)) (by simp [results,Tryz.results88,go_sem]) rfl ⟨by rw [show R=_ from HR']<;> try rfl,hb3⟩
   ·simp only [hgd,if_false,Bool.false_eq_true] at HWr
    rw [if_neg (by omega),if_neg (by omega),if_neg (by omega)] at hR'
    have z12:(s.op == 12)=false:=beq_false_of_ne (by omega)
    have z13:(s.op == 13)=false:=beq_false_of_ne (by omega)
    clear hgd
    have HR':=Lib.hid hR'
    clear hR'
    go_wp2_with (first|(go_at_call 131;refine HWr.mono ?_;rintro e w2 ⟨rfl,hb2⟩;have P2:PBox w2 kp p Va Ab vc cb:=below_blk hb2 hP (blk_lt hP);have S2:SB w2 ks s x6 x7:=below_blk hb2 hS (blk_lt hS);obtain⟨p0,p1,p2,p3⟩:=P2.cells;clear s0 s1 s2 s3 s4 s5 s6 s7;obtain⟨s0,s1,s2,s3,s4,s5,s6,s7⟩:=S2.cells;have hb3:=hbw.trans (lower_below hb2 hbw.size)))
    exact bodyPost_ret (v:= .bool acc) (by simp [results,Tryz.results88,go_sem]) rfl ⟨by rw [show R=_ from HR']<;> try rfl,hb3⟩
theorem contains_snoc (L:List Int)(y x:Int):(L++[y]).contains x=(L.contains x || (y == x)):=by
 rw [Bool.eq_iff_iff,Bool.or_eq_true,List.contains_iff_mem,List.contains_iff_mem,List.mem_append,List.mem_singleton,beq_iff_eq]
 exact⟨fun h=>h.elim .inl (fun e=> .inr e.symm),fun h=>h.elim .inl (fun e=> .inr e.symm)⟩
def faultV (f:Al.Fault):Value:= .agg #[.int .i64 f.code,.bool f.placed,.int .i64 f.pos]
theorem ref_none (w:World):Calls Tryz.prog 52 #[] w fun e w'=>e= .returned (faultV .fine)/\Below w.heap.size w w':=by
 go_enter Tryz.func52,Tryz.ntmps52
 go_wp2_with fail
 exact bodyPost_ret (v:=faultV .fine) (by simp [results,Tryz.results52,go_sem,faultV,Al.Fault.fine]) rfl ⟨rfl,(Below.refl _ _).alloc (Nat.le_refl _) _⟩
theorem ref_bare (w:World)(c:Int):Calls Tryz.prog 53 #[.int .i64 c] w fun e w'=>e= .returned (faultV (.bare c))/\Below w.heap.size w w':=by
 go_enter Tryz.func53,Tryz.ntmps53
 go_wp2_with fail
 exact bodyPost_ret (v:=faultV (.bare c)) (by simp [results,Tryz.results53,go_sem,faultV,Al.Fault.bare]) rfl ⟨rfl,(Below.refl _ _).alloc (Nat.le_refl _) _⟩
theorem ref_placed (w:World)(c i:Int)(hc:c≠0):Calls Tryz.prog 51 #[.int .i64 c,.int .i64 i] w fun e w'=>e= .returned (faultV (.at_ c i))/\Below w.heap.size w w':=by
 have z:(c == 0)=false:=beq_false_of_ne hc
 go_enter Tryz.func51,Tryz.ntmps51
 go_wp2_with fail
 exact bodyPost_ret (v:=faultV (.at_ c i)) (by simp [results,Tryz.results51,go_sem,faultV,Al.Fault.at_]) rfl ⟨rfl,(Below.refl _ _).alloc (Nat.le_refl _) _⟩
theorem ref_has {w:World}{a:Option Addr}{cap:Nat}{L:List Int}(hI:IntsAt w (.slice a L.length cap) L)(hL:L.length<1000)(x:Int):
  Calls Tryz.prog 127 #[.slice a L.length cap,.int .i64 x] w fun e w'=>e= .returned (.bool (L.contains x))/\w'=w:=by
 obtain⟨R,hR⟩:∃ R,R=L.contains x:=⟨_,rfl⟩
 rw [<-hR]
 replace hR:=Lib.hid hR
 go_enter Tryz.func127,Tryz.ntmps127
 go_wp2_with fail
 go_loopg [5] (L.length+1) (fun gk v5 w'=>∃ j:Nat,v5= .int .i64 j/\(L.take j).contains x=false/\j+gk=L.length+1/\j<=L.length/\w'=w)
 case atStart=>exact⟨0,rfl,by simp,by omega,by omega,rfl⟩
 case round=>
  obtain⟨j,rfl,hno,hj,hj2,hww⟩:=hrel
  subst hww
  by_cases hjl:j<L.length
  ·obtain⟨k1,rfl⟩:∃ k1,gk=k1+1:=⟨gk - 1,by omega⟩
   obtain⟨ag,he,hcell⟩:=ints_get hI hjl
   have hnx:(L.take (j+1)).contains x=((L.take j).contains x || (L[j] == x)):=by
    rw [List.take_succ_eq_append_getElem hjl];exact contains_snoc _ _ _
   obtain⟨y,hy⟩:∃ y,y=L[j]:=⟨_,rfl⟩
   rw [<-hy] at hcell hnx
   have hmem:y∈L:=by rw [hy];exact List.getElem_mem _
   replace hy:=Lib.hid hy
   have t1:decide ((j:Int)<(L.length:Int))=true:=by simp;omega
   have t2:(0:Int)<=(j:Int):=by omega
   have t3:(j:Int)<(L.length:Int):=by omega
   subst he
   clear hI
   by_cases hyx:y=x
   ·have z:(y == x)=true:=by rw [hyx];exact beq_self_eq_true _
    have hRt:R=true:=by rw [show R=L.contains x from hR,<-hyx];simpa using hmem
    clear hyx hnx hmem
    go_wp2_with fail
    exact bodyPost_ret (v:= .bool true) (by simp [results,Tryz.results127,go_sem]) rfl ⟨by rw [hRt],rfl⟩
   ·have z:(y == x)=false:=beq_false_of_ne hyx
    rw [hno,z] at hnx
    clear hyx hmem
    replace hnx:=Lib.hid hnx
    go_wp2_with fail
    go_roundg k1
    case measure=>omega
    case rel=>exact⟨j+1,by simp,hnx,by omega,by omega,rfl⟩
  ·have hje:j=L.length:=by omega
   have t1:decide ((j:Int)<(L.length:Int))=false:=by simp;omega
   have hRf:R=false:=by rw [show R=L.contains x from hR,<-hno,hje,List.take_length]
   go_wp2_with fail
   exact bodyPost_ret (v:= .bool false) (by simp [results,Tryz.results127,go_sem]) rfl ⟨by rw [hRf],rfl⟩
def primeL:List Int:=[17,97,257,3329,7681,12289,8380417]
def sizeL:List Int:=[4,8,16,32,64,128,256]
theorem primeL_is (q:Int):primeL.contains q=Al.isPrime q:=by
 rw [Bool.eq_iff_iff];simp [Al.isPrime,primeL,or_assoc]
theorem sizeL_is (n:Int):sizeL.contains n=Al.isSize n:=by
 rw [Bool.eq_iff_iff];simp [Al.isSize,sizeL,or_assoc]
theorem ints_new (w:World)(L:List Int)(hL:L≠[]):IntsAt (w.alloc (.cells (intsV L).toArray 3)) (.slice (some ⟨w.heap.size,0,none⟩) L.length L.length) L:=
 .inr ⟨w.heap.size,L.length,(intsV L).toArray,rfl,heap_alloc_new w _,fun j hj=>by simp [intsV,hj]⟩
theorem ref_primes (w:World):Calls Tryz.prog 173 #[] w fun e w'=>e= .returned (.slice (some ⟨w.heap.size,0,none⟩) 7 7)/\IntsAt w' (.slice (some ⟨w.heap.size,0,none⟩) 7 7) primeL/\Below w.heap.size w w':=by
 have hI:IntsAt (w.alloc (.cells #[.int .i64 17,.int .i64 97,.int .i64 257,.int .i64 3329,.int .i64 7681,.int .i64 12289,.int .i64 8380417] 3)) (.slice (some ⟨w.heap.size,0,none⟩) 7 7) primeL:=by
  have:=ints_new w primeL (by decide)
  simpa [primeL,intsV] using this
 have hb:Below w.heap.size w (w.alloc (.cells #[.int .i64 17,.int .i64 97,.int .i64 257,.int .i64 3329,.int .i64 7681,.int .i64 12289,.int .i64 8380417] 3)):=(Below.refl _ _).alloc (Nat.le_refl _) _
 go_enter Tryz.func173,Tryz.ntmps173
 go_wp2_with fail
 refine gen_world (Q:=fun W=>bodyPost _ _ _ _ _ W) _ (fun W=>IntsAt W (.slice (some ⟨w.heap.size,0,none⟩) 7 7) primeL/\Below w.heap.size w W) ⟨hI,hb⟩ ?_
 clear hI hb
 rintro W ⟨hI,hb⟩
 exact bodyPost_ret (v:= .slice (some ⟨w.heap.size,0,none⟩) 7 7) (by simp [results,Tryz.results173,go_sem]) rfl ⟨rfl,hI,hb⟩
theorem has_seven {w:World}{a:Option Addr}{L:List Int}(h7:L.length=7)(hI:IntsAt w (.slice a 7 7) L)(x:Int):Calls Tryz.prog 127 #[.slice a 7 7,.int .i64 x] w fun e w'=>e= .returned (.bool (L.contains x))/\w'=w:=by
 have:=ref_has (w:=w) (a:=a) (cap:=7) (L:=L) (by rw [h7];exact hI) (by omega) x
 rw [h7] at this
 exact this
theorem ref_is (w:World)(q:Int):Calls Tryz.prog 126 #[.int .i64 q] w fun e w'=>e= .returned (.bool (Al.isPrime q))/\Below w.heap.size w w':=by
 obtain⟨R,hR⟩:∃ R,R=Al.isPrime q:=⟨_,rfl⟩
 have hR2:primeL.contains q=R:=by rw [hR,primeL_is]
 rw [<-hR]
 have HP:=ref_primes w
 obtain⟨L,hL⟩:∃ L,L=primeL:=⟨_,rfl⟩
 have h7:L.length=7:=by rw [hL];rfl
 rw [<-hL] at HP hR2
 clear hL hR
 go_enter Tryz.func126,Tryz.ntmps126
 go_wp2_with (first|(go_at_call 173;refine HP.mono ?_;rintro e w1 ⟨rfl,hI,hb⟩)|(go_at_call 127;refine (has_seven h7 hI q).mono ?_;rintro e w2 ⟨rfl,rfl⟩))
 exact bodyPost_ret (v:= .bool (L.contains q)) (by simp [results,Tryz.results126,go_sem]) rfl ⟨by rw [hR2],hb⟩
theorem ref_ring (w:World)(q n:Int):Calls Tryz.prog 84 #[.agg #[.int .i64 q,.int .i64 n]] w fun e w'=>e= .returned (.int .i64 (if Al.ringOk q n then 0 else 101))/\Below w.heap.size w w':=by
 obtain⟨R,hR⟩:∃ R:Int,R=(if Al.ringOk q n then 0 else 101):=⟨_,rfl⟩
 rw [<-hR]
 unfold Al.ringOk at hR
 obtain⟨W,hW⟩:∃ W,W=w.alloc (.cells #[.int .i64 q,.int .i64 n] 23):=⟨_,rfl⟩
 have hb0:Below w.heap.size w W:=by rw [hW];exact (Below.refl _ _).alloc (Nat.le_refl _) _
 obtain⟨kp,hkp⟩:∃ kp,kp=w.heap.size:=⟨_,rfl⟩
 have h0:W.heap[kp]?=some (.cells #[.int .i64 q,.int .i64 n] 23 (0,0)):=by rw [hW,hkp];exact heap_alloc_new w _
 have hkl:=blk_lt h0
 have HI:=ref_is W q
 obtain⟨L,hL⟩:∃ L,L=sizeL:=⟨_,rfl⟩
 have h7:L.length=7:=by rw [hL];rfl
 have hN:∀ w1:World,IntsAt (w1.alloc (.cells #[.int .i64 4,.int .i64 8,.int .i64 16,.int .i64 32,.int .i64 64,.int .i64 128,.int .i64 256] 3)) (.slice (some ⟨w1.heap.size,0,none⟩) 7 7) L:=fun w1=>by
  have:=ints_new w1 sizeL (by decide)
  rw [hL]
  simpa [sizeL,intsV] using this
 have hc:L.contains n=Al.isSize n:=by rw [hL,sizeL_is]
 clear hL
 go_enter Tryz.func84,Tryz.ntmps84
 go_wp2_with fail
 rw [<-hW]
 simp only [<-hkp]
 clear hW hkp
 rcases Bool.eq_false_or_eq_true (Al.isPrime q) with hp|hp
 ·rw [hp] at HI hR
  have HH:=fun w1=>has_seven h7 (hN w1) n
  simp only [hc] at HH
  rcases Bool.eq_false_or_eq_true (Al.isSize n) with hz|hz
  all_goals
   simp only [hz] at HH
   rw [hz] at hR
   replace hR:=Lib.hid hR
   clear hc hN
   go_wp2_with (first|(go_at_call 126;refine HI.mono ?_;rintro e w1 ⟨rfl,hb1⟩;have v1:∀ o,(w1.alloc o).cell? ⟨kp,1,none⟩=some (.int .i64 n):=fun o=>(cell_blk (alloc_blk o (below_blk hb1 h0 hkl)) _).trans rfl)|(go_at_call 127;refine (HH w1).mono ?_;rintro e w2 ⟨rfl,rfl⟩))
  ·have hRv:R=0:=by rw [show R=_ from hR];rfl
   exact bodyPost_ret (v:= .int .i64 0) (by simp [results,Tryz.results84,go_sem]) rfl ⟨by rw [hRv],(hb0.trans (lower_below hb1 hb0.size)).alloc (Nat.le_trans hb0.size hb1.size) _⟩
  ·have hRv:R=101:=by rw [show R=_ from hR];rfl
   exact bodyPost_ret (v:= .int .i64 101) (by simp [results,Tryz.results84,go_sem]) rfl ⟨by rw [hRv],(hb0.trans (lower_below hb1 hb0.size)).alloc (Nat.le_trans hb0.size hb1.size) _⟩
 ·rw [hp] at HI hR
  have hRv:R=101:=by rw [hR];simp
  clear hR
  go_wp2_with (first|(go_at_call 126;refine HI.mono ?_;rintro e w1 ⟨rfl,hb1⟩))
  exact bodyPost_ret (v:= .int .i64 101) (by simp [results,Tryz.results84,go_sem]) rfl ⟨by rw [hRv],hb0.trans (lower_below hb1 hb0.size)⟩
open Go.Proofs.YtkplfaionpplaaaGreatDoorW.PrintWords
theorem depthL_snoc:∀ (l:List Al.Stmt) (s:Al.Stmt),Al.depthL (l++[s])=max (Al.depthL l) (Al.depthS s)
 |[],s=>by have:=depthS_nonneg s;simp only [List.nil_append,Al.depthL];omega
 |t :: l,s=>by simp only [List.cons_append,Al.depthL,depthL_snoc l s];omega
theorem depthS_eq (s:Al.Stmt):Al.depthS s=max 0 (max (Al.depthL s.body) (Al.depthL s.els)+1):=by cases s;unfold Al.depthS;rfl
theorem below_drew' {B:Nat}{w w':World}(h:Below B w w'):Below B w w'.drew:=⟨h.os,h.tape,h.output,h.size,h.block⟩
def DepthC (W0:World)(m:Nat):Prop:=∀ (l:List Al.Stmt) (A:Option Addr) (cap:Nat),Al.depthL l<m->kStmt.C W0 A l.length l->(Al.flatL l).length<=1000->∀ w,Below W0.heap.size W0 w->
 Calls Tryz.prog 86 #[.slice A l.length cap] w fun e w'=>e= .returned (.int .i64 (Al.depthL l))/\Below w.heap.size w w'
theorem depth_step {W0:World}{m:Nat}(hm9:m<=1000)(hm:0<m->DepthC W0 (m - 1)):DepthC W0 m:=by
 intro l A cap hd hl hll w hB
 have hfl:=flatL_len l
 have HL:=Lib.hid hl
 have HB:=Lib.hid hB
 clear hl hB
 go_enter Tryz.func86,Tryz.ntmps86
 go_wp2_with fail
 go_loopg [3,4] (l.length+1) (fun gk v3 v4 w'=>∃ i:Nat,v4= .int .i64 i/\v3= .int .i64 (Al.depthL (l.take i))/\i+gk=l.length+1/\i<=l.length/\Hid (Below w.heap.size w w'))
 case atStart=>exact⟨0,rfl,rfl,by omega,by omega,Lib.hid (Below.refl _ _)⟩
 case round=>
  obtain⟨i,rfl,hn,hg,hi2,HR⟩:=hrel
  subst hn
  have hR:=show Below w.heap.size w wr from HR
  have hB:=show Below W0.heap.size W0 w from HB
  have hB1:Below W0.heap.size W0 wr:=hB.trans (lower_below hR hB.size)
  by_cases hil:i<l.length
  ·obtain⟨k1,rfl⟩:∃ k1,gk=k1+1:=⟨gk - 1,by omega⟩
   obtain⟨ad,A6,c6,A7,c7,rfl,d0,d1,d2,d3,d4,d5,d6,d7,l6,g6,l7,g7⟩:=at_T902 (show kStmt.C W0 A l.length l from HL) (i:Int) (by omega) (by omega)
   clear d0 d1 d2 d3 d4 d5
   replace d6:=cell_since hB1 d6
   replace d7:=cell_since hB1 d7
   simp only [Int.toNat_natCast] at d6 d7
   obtain⟨s,hs⟩:∃ s,s=rd_T902 l (i:Int):=⟨_,rfl⟩
   simp only [<-hs] at d6 d7 l6 g6 l7 g7
   rw [rd_get l i hil] at hs
   have hds:=depth_get l i hil
   rw [<-hs] at hds
   have hdn:=depthS_nonneg s
   have hdb:=depth_body s
   have hge6:=depthL_ge s.body
   have hge7:=depthL_ge s.els
   have hse:=depthS_eq s
   have hnx:Al.depthL (l.take (i+1))=max (Al.depthL (l.take i)) (Al.depthS s):=by rw [take_succ l i hil,depthL_snoc,hs]
   have hpre:=depthL_ge (l.take i)
   have hfl2:(Al.flatL s.body).length<=1000/\(Al.flatL s.els).length<=1000:=by
    have e:Al.flatL l=Al.flatL (l.take i)++(Al.flatS s++Al.flatL (l.drop (i+1))):=by
     rw [<-flatL_one s,<-flatL_append,<-flatL_append]
     congr 1
     rw [hs]
     simp
    have h1:(Al.flatL l).length=(Al.flatL (l.take i)).length+((Al.flatS s).length+(Al.flatL (l.drop (i+1))).length):=by rw [e];simp only [List.length_append]
    have h2:(Al.flatS s).length=1+(Al.flatL s.body).length+(Al.flatL s.els).length:=by rw [flatS_eq];simp;omega
    omega
   replace hs:=Lib.hid hs
   have hm1:=hm (by omega)
   have HD1:=fun w1=>hm1 s.body A6 c6 (by omega) g6 hfl2.1 w1
   have HD2:=fun w1=>hm1 s.els A7 c7 (by omega) g7 hfl2.2 w1
   have r0:(0:Int)<=(i:Int):=by omega
   have r1:(i:Int)<(l.length:Int):=by omega
   have r2:decide ((i:Int)<(l.length:Int))=true:=decide_eq_true r1
   obtain⟨x,hx⟩:∃ x,x=Al.depthL s.body:=⟨_,rfl⟩
   obtain⟨y,hy⟩:∃ y,y=Al.depthL s.els:=⟨_,rfl⟩
   obtain⟨z,hz⟩:∃ z,z=Al.depthL (l.take i):=⟨_,rfl⟩
   obtain⟨ds,hds2⟩:∃ ds,ds=Al.depthS s:=⟨_,rfl⟩
   rw [<-hx] at HD1 hse hdb hge6
   rw [<-hy] at HD2 hse hdb hge7
   rw [<-hz] at hnx hpre ⊢
   rw [<-hds2] at hnx hse hds hdn hdb
   clear hx hy hds2
   replace hnx:=Lib.hid hnx
   replace hse:=Lib.hid hse
   replace hz:=Lib.hid hz
   have hx6:x<=1000:=by omega
   have hy6:y<=1000:=by omega
   have hw1:wrap64 (max x y+1)=max x y+1:=by unfold wrap64;omega
   have hBd:Below W0.heap.size W0 wr.drew:=below_drew' hB1
   clear hfl2
   go_wp2_with fail
   go_region_held3 (fun w'=>w'.cell? ⟨(ad.add (i * 8)).block,(ad.add (i * 8)).off+6,none⟩=some (.slice A6 s.body.length c6)/\w'.cell? ⟨(ad.add (i * 8)).block,(ad.add (i * 8)).off+7,none⟩=some (.slice A7 s.els.length c7)) ((constructor<;> assumption)) (first
    |(go_at_call 86;refine (HD1 _ hBd).mono ?_;rintro e w2 ⟨rfl,hb2⟩;replace hb2:=undrew hb2;have hB2:=hB1.trans (lower_below hb2 hB1.size);have e6:=cell_since hb2 d6;have e7:=cell_since hb2 d7;clear d6 d7 HD1)
    |(go_at_call 86;refine (HD2 _ hB2).mono ?_;rintro e w3 ⟨rfl,hb3⟩;have f6:=cell_since hb3 e6;have f7:=cell_since hb3 e7;clear e6 e7 HD2))
   have hw:IntKind.i64.wrap ((if x<y then y else x)+1)=(if x<y then y else x)+1:=IntWalk.i64_in _ (by split<;> omega)
   rw [hw]
   have hR3:Hid (Below w.heap.size w w3):=Lib.hid ((hR.trans (lower_below hb2 hR.size)).trans (lower_below hb3 (Nat.le_trans hR.size hb2.size)))
   have hV:(if z<(if 0<(if x<y then y else x)+1 then (if x<y then y else x)+1 else 0) then (if 0<(if x<y then y else x)+1 then (if x<y then y else x)+1 else 0) else z)=Al.depthL (l.take (i+1)):=by
    rw [show Al.depthL (l.take (i+1))=_ from hnx,show ds=_ from hse]
    (repeat' split)<;> omega
   rw [hV]
   obtain⟨zz,hzz⟩:∃ zz,zz=Al.depthL (l.take (i+1)):=⟨_,rfl⟩
   rw [<-hzz]
   clear hV hw hw1
   generalize (if x<y then y else x)=M
   generalize (if 0<M+1 then M+1 else 0)=M2
   replace hzz:=Lib.hid hzz
   clear f6 f7 hb2 hb3 hB2 hBd
   go_wp2_with fail
   go_roundg k1
   case measure=>omega
   case rel=>exact⟨i+1,by simp,(by rw [<-(show zz=_ from hzz)]),by omega,by omega,hR3⟩
  ·have hie:i=l.length:=by omega
   have t1:decide ((i:Int)<(l.length:Int))=false:=by simp;omega
   have e:l.take i=l:=by rw [hie,List.take_length]
   rw [e]
   go_wp2_with fail
   exact bodyPost_ret (v:= .int .i64 (Al.depthL l)) (by simp [results,Tryz.results86,go_sem]) rfl ⟨rfl,hR⟩
theorem depth_all {W0:World}:∀ (m:Nat),m<=1000->DepthC W0 m
 |0,h=>depth_step h (fun h0=>absurd h0 (by omega))
 |m+1,h=>depth_step h (fun _=>depth_all m (by omega))
theorem append_row {P:Program}{w:World}{ops:Array Oper}{rest:List Oper}{o:Oper}{a:Act}{Q:Exit->Act->World->Prop}(hgd:o.guard=none)(s x:Operand)(t:TypeId)
  (ho:o.op= .call { callee:= .builtin .append,args:= #[s,x],argTypes:= #[t,t]})
  (base:Nat) (e:TypeId) (i:TypeInfo) (z:Value) (size bytes:Nat) (ht:P.underlying t=some (.slice e)) (hi:P.info? e=some i) (hz:i.zero=some z)
  (hsize:i.size=size) (hby:i.bytes=bytes) (hzs:z.cells.size=size) (hsz:0<size)
  (v:Value) (n:Nat) (xs:List Value) (hs:a.eval s=v) (hown:w.ownsRow base e size v n xs)
  (base2:Nat) (u:Value) (m:Nat) (ys:List Value) (hx:a.eval x=u) (hu:w.ownsRow base2 e size u m ys) (h1:∀ u∈ys,u.oneCell'=true)
  (h63:n+m<=maxLen) (hbytes:(n+m) * bytes<=140737488355328) (hbase:base<=w.heap.size)
  (h:∀ v' w',w'.ownsRow base e size v' (n+m) (xs++ys)->(w'=w\/w.grownBy w' v.ownBlock)->wpList P ops Q rest (a.put o.dst v') w'):wpList P ops Q (o :: rest) a w:=by
 rcases hu.2 with⟨hn,h0⟩|⟨g,cap,cur,hv,g1,g2,g3,g4,g5,g6⟩
 ·have hy:ys=[]:=by have:=hu.1;rw [h0,Nat.zero_mul] at this;exact List.eq_nil_of_length_eq_zero this
  subst h0 hy hn
  refine wpList_append_own_none hgd s x t ho base e i size ht hi v n xs hs hown hx ?_
  exact h v w (by simpa using hown) (.inl rfl)
 ·refine wpList_append_own_at _ hgd s x t ho base e i z size bytes ht hi hz hsize hby hzs hsz v n xs hs hown ⟨g,0,none⟩ m cap ys (by rw [hx,hv]) hu.1 (fun j u hj=>World.news_of_block g2 j u ?_) h1 h63 hbytes hbase ?_
  ·rw [<-g6,List.getElem?_take] at hj
   split at hj
   ·exact hj
   ·cases hj
  ·intro v' w' hown' hgrow _ _
   exact h v' w' hown' (.inr hgrow)
def CellsS (W0:World):List Al.Stmt->List Value->Prop
 |[],cs=>cs=[]
 |s :: l,cs=>∃ A6 c6 A7 c7 cs',s.body.length<=c6/\kStmt.C W0 A6 s.body.length s.body/\s.els.length<=c7/\kStmt.C W0 A7 s.els.length s.els/\cs=(stmtV s (.slice A6 s.body.length c6) (.slice A7 s.els.length c7)).toList++cs'/\CellsS W0 l cs'
theorem CellsS.append {W0:World}:∀ {l m:List Al.Stmt} {cs ds:List Value},CellsS W0 l cs->CellsS W0 m ds->CellsS W0 (l++m) (cs++ds)
 |[],m,cs,ds,h,k=>by rw [show cs=[] from h];simpa using k
 |s :: l,m,cs,ds,h,k=>by
  obtain⟨A6,c6,A7,c7,cs',l6,g6,l7,g7,rfl,hr⟩:=h
  exact⟨A6,c6,A7,c7,cs'++ds,l6,g6,l7,g7,by simp,hr.append k⟩
theorem CellsS.one {W0:World}:∀ {l:List Al.Stmt} {cs:List Value},CellsS W0 l cs->∀ u∈cs,u.oneCell'=true
 |[],cs,h,u,hu=>by rw [show cs=[] from h] at hu;simp at hu
 |s :: l,cs,h,u,hu=>by
  obtain⟨A6,c6,A7,c7,cs',l6,g6,l7,g7,rfl,hr⟩:=h
  rcases List.mem_append.1 hu with hu|hu
  ·simp only [stmtV,List.mem_cons,List.not_mem_nil,or_false] at hu
   rcases hu with rfl|rfl|rfl|rfl|rfl|rfl|rfl|rfl<;> rfl
  ·exact hr.one u hu
theorem CellsS.single {W0:World}{s:Al.Stmt}{A6 A7:Option Addr}{c6 c7:Nat}(l6:s.body.length<=c6)(g6:kStmt.C W0 A6 s.body.length s.body)(l7:s.els.length<=c7)(g7:kStmt.C W0 A7 s.els.length s.els):CellsS W0 [s] (stmtV s (.slice A6 s.body.length c6) (.slice A7 s.els.length c7)).toList:=
 ⟨A6,c6,A7,c7,[],l6,g6,l7,g7,by simp,rfl⟩
def RowS (W0 w:World)(base:Nat)(v:Value)(l:List Al.Stmt):Prop:=∃ cs,w.ownsRow base 66 8 v l.length cs/\CellsS W0 l cs
theorem RowS.below {W0 w w':World}{base:Nat}{v:Value}{l:List Al.Stmt}(h:RowS W0 w base v l)(hb:Below w.heap.size w w'):RowS W0 w' base v l:=by
 obtain⟨cs,ho,hc⟩:=h
 exact⟨cs,own_of ho fun k hk=>hb.block k (ho.lt k hk).2,hc⟩
theorem Tryz.infoStmt:(Tryz.prog.info? 66).map (fun i=>(i.zero,i.size,i.bytes))=some (some (.agg #[.int .i64 0,.int .i64 0,.int .i64 0,.int .i64 0,.int .i64 0,.int .i64 0,.slice none 0 0,.slice none 0 0]),8,96):=by kernel_rfl
theorem below_grown2 {B:Nat}{w W W':World}{row:Option Nat}(hb:Below B w W)(hg:W'=W\/W.grownBy W' row)(hr:∀ k,row=some k->B<=k)(hB:B<=W.heap.size):Below B w W':=by
 rcases hg with rfl|hg
 ·exact hb
 ·exact below_grown hb hg hr hB
def FlatC (W0:World)(m:Nat):Prop:=∀ (l:List Al.Stmt) (A:Option Addr) (cap:Nat),Al.depthL l<m->kStmt.C W0 A l.length l->(Al.flatL l).length<=1000->∀ w,Below W0.heap.size W0 w->
 Calls Tryz.prog 20 #[.slice A l.length cap] w fun e w'=>∃ v,e= .returned v/\RowS W0 w' w.heap.size v (Al.flatL l)/\Below w.heap.size w w'
theorem flat_step {W0:World}{m:Nat}(hm:0<m->FlatC W0 (m - 1)):FlatC W0 m:=by
 intro l A cap hd hl hll w hB
 have hfl:=flatL_len l
 obtain⟨i0,hi0,iz0,iz1,iz2⟩:=info_parts Tryz.infoStmt
 have HL:=Lib.hid hl
 have HB:=Lib.hid hB
 clear hl hB
 go_enter Tryz.func20,Tryz.ntmps20
 go_wp2_with fail
 go_loopg [3,4] (l.length+1) (fun gk v3 v4 w'=>∃ i:Nat,v4= .int .i64 i/\i+gk=l.length+1/\i<=l.length/\Hid (RowS W0 w' w.heap.size v3 (Al.flatL (l.take i))/\Below w.heap.size w w'))
 case atStart=>exact⟨0,rfl,by omega,by omega,show _/\_ from⟨⟨[],by simpa [Al.flatL] using World.ownsRow_nil _ _ _ _,by simp [Al.flatL,CellsS]⟩,Below.refl _ _⟩⟩
 case round=>
  obtain⟨i,rfl,hg,hi2,HR⟩:=hrel
  obtain⟨hrow,hR⟩:=show RowS W0 wr w.heap.size u3 (Al.flatL (l.take i))/\Below w.heap.size w wr from HR
  have hB:=show Below W0.heap.size W0 w from HB
  have hB1:Below W0.heap.size W0 wr:=hB.trans (lower_below hR hB.size)
  by_cases hil:i<l.length
  ·obtain⟨k1,rfl⟩:∃ k1,gk=k1+1:=⟨gk - 1,by omega⟩
   obtain⟨ad,A6,c6,A7,c7,rfl,d0,d1,d2,d3,d4,d5,d6,d7,l6,g6,l7,g7⟩:=at_T902 (show kStmt.C W0 A l.length l from HL) (i:Int) (by omega) (by omega)
   have D6:=fun w' (hb:Below W0.heap.size W0 w')=>cell_since hb d6
   have D7:=fun w' (hb:Below W0.heap.size W0 w')=>cell_since hb d7
   replace d0:=cell_since hB1 d0
   replace d1:=cell_since hB1 d1
   replace d2:=cell_since hB1 d2
   replace d3:=cell_since hB1 d3
   replace d4:=cell_since hB1 d4
   replace d5:=cell_since hB1 d5
   replace d6:=cell_since hB1 d6
   replace d7:=cell_since hB1 d7
   simp only [Int.toNat_natCast] at d0 d1 d2 d3 d4 d5 d6 d7 D6 D7
   obtain⟨s,hs⟩:∃ s,s=rd_T902 l (i:Int):=⟨_,rfl⟩
   simp only [<-hs] at d0 d1 d2 d3 d4 d5 d6 d7 l6 g6 l7 g7 D6 D7
   rw [rd_get l i hil] at hs
   have hds:=depth_get l i hil
   rw [<-hs] at hds
   have hdn:=depthS_nonneg s
   have hdb:=depth_body s
   have hnx:Al.flatL (l.take (i+1))=Al.flatL (l.take i)++[s]++Al.flatL s.body++Al.flatL s.els:=by
    rw [take_succ l i hil,flatL_append,flatL_one,<-hs,flatS_eq];simp
   have e:Al.flatL l=Al.flatL (l.take (i+1))++Al.flatL (l.drop (i+1)):=by rw [<-flatL_append,List.take_append_drop]
   have hln:(Al.flatL (l.take i)).length+1+(Al.flatL s.body).length+(Al.flatL s.els).length<=1000:=by
    have h1:(Al.flatL l).length=_:=congrArg List.length e
    rw [hnx] at h1
    simp only [List.length_append,List.length_cons,List.length_nil] at h1
    omega
   replace hs:=Lib.hid hs
   replace hnx:=Lib.hid hnx
   clear e
   have hm1:=hm (by omega)
   have HD1:=fun w1=>hm1 s.body A6 c6 (by omega) g6 (by omega) w1
   have HD2:=fun w1=>hm1 s.els A7 c7 (by omega) g7 (by omega) w1
   obtain⟨F0,hF0⟩:∃ F0,F0=Al.flatL (l.take i):=⟨_,rfl⟩
   obtain⟨FB,hFB⟩:∃ FB,FB=Al.flatL s.body:=⟨_,rfl⟩
   obtain⟨FE,hFE⟩:∃ FE,FE=Al.flatL s.els:=⟨_,rfl⟩
   rw [<-hF0] at hln hrow
   rw [<-hFB] at hln HD1
   rw [<-hFE] at hln HD2
   replace hF0:=Lib.hid hF0
   replace hFB:=Lib.hid hFB
   replace hFE:=Lib.hid hFE
   have r0:(0:Int)<=(i:Int):=by omega
   have r1:(i:Int)<(l.length:Int):=by omega
   have r2:decide ((i:Int)<(l.length:Int))=true:=decide_eq_true r1
   obtain⟨cs0,hown0,hcs0⟩:=hrow
   have hsz:w.heap.size<=wr.heap.size:=hR.size
   have own1:=hown0.alloc (.cells (stmtV s (.slice A6 s.body.length c6) (.slice A7 s.els.length c7)) 66)
   have src1:(wr.alloc (.cells (stmtV s (.slice A6 s.body.length c6) (.slice A7 s.els.length c7)) 66)).ownsRow w.heap.size 66 8 (.slice (some ⟨wr.heap.size,0,none⟩) 1 1) 1 (stmtV s (.slice A6 s.body.length c6) (.slice A7 s.els.length c7)).toList:=
    ⟨rfl,.inr ⟨wr.heap.size,1,_,rfl,hsz,heap_alloc_new _ _,by omega,by unfold maxLen;omega,rfl,rfl⟩⟩
   have bl1:Below w.heap.size w (wr.alloc (.cells (stmtV s (.slice A6 s.body.length c6) (.slice A7 s.els.length c7)) 66)):=hR.alloc hsz _
   have cs1:=CellsS.single l6 g6 l7 g7
   have one1:=cs1.one
   clear hdb hds hdn HR
   unfold stmtV at own1 src1 bl1 cs1 one1
   go_wp2_with (first
    |(at_builtin;refine append_row rfl (.tmp 11) (.tmp 16) 25 rfl w.heap.size 66 i0 _ 8 96 Tryz.underlying25 hi0 iz0 iz1 iz2 rfl (by omega) _ _ _ rfl own1 w.heap.size _ _ _ rfl src1 one1 (by unfold maxLen;omega) (by omega) (by simp;omega) ?_;intro v1 w1 hown1 hgrow1;obtain⟨sa1,sc1,rfl⟩:=own_slice hown1;have hb1:=below_grown2 bl1 hgrow1 (fun k hk=>(own1.lt k hk).1) (by simp;omega);have hc1:=hcs0.append cs1;have hBB:=hB.trans (lower_below hb1 hB.size);have e6:=D6 _ hBB;clear own1 src1 bl1 d0 d1 d2 d3 d4 d5 d6 d7)
    |(go_at_call 20;refine (HD1 w1 hBB).mono ?_;rintro e w2 ⟨v2,rfl,⟨cs2,ho2,hc2⟩,hb2⟩;obtain⟨sa2,sc2,rfl⟩:=own_slice ho2;have hown2:=own_of hown1 fun k hk=>hb2.block k (hown1.lt k hk).2;have hb3:=hb1.trans (lower_below hb2 hb1.size);have hBB2:=hB.trans (lower_below hb3 hB.size);have one2:=hc2.one;clear e6 HD1)
    |(at_builtin;refine append_row rfl (.tmp 18) (.tmp 24) 25 rfl w.heap.size 66 i0 _ 8 96 Tryz.underlying25 hi0 iz0 iz1 iz2 rfl (by omega) _ _ _ rfl hown2 w1.heap.size _ _ _ rfl ho2 one2 (by unfold maxLen;omega) (by omega) hb3.size ?_;intro v3 w3 hown3 hgrow3;obtain⟨sa3,sc3,rfl⟩:=own_slice hown3;have hb4:=below_grown2 hb3 hgrow3 (fun k hk=>(hown2.lt k hk).1) hb3.size;have hc3:=hc1.append hc2;have hBB3:=hB.trans (lower_below hb4 hB.size);have e7:=D7 _ hBB3;clear ho2 hown2 hb3)
    |(go_at_call 20;refine (HD2 w3 hBB3).mono ?_;rintro e w4 ⟨v4,rfl,⟨cs4,ho4,hc4⟩,hb5⟩;obtain⟨sa4,sc4,rfl⟩:=own_slice ho4;have hown4:=own_of hown3 fun k hk=>hb5.block k (hown3.lt k hk).2;have hb6:=hb4.trans (lower_below hb5 hb4.size);have one4:=hc4.one;clear e7 HD2)
    |(at_builtin;refine append_row rfl (.tmp 26) (.tmp 32) 25 rfl w.heap.size 66 i0 _ 8 96 Tryz.underlying25 hi0 iz0 iz1 iz2 rfl (by omega) _ _ _ rfl hown4 w3.heap.size _ _ _ rfl ho4 one4 (by unfold maxLen;omega) (by omega) hb6.size ?_;intro v5 w5 hown5 hgrow5;have hb7:=below_grown2 hb6 hgrow5 (fun k hk=>(hown4.lt k hk).1) hb6.size;have hc5:=hc3.append hc4;clear ho4 hown4 hb6))
   have HN:Hid (RowS W0 w5 w.heap.size v5 (Al.flatL (l.take (i+1)))/\Below w.heap.size w w5):=by
    refine show _/\_ from⟨?_,hb7⟩
    rw [show Al.flatL (l.take (i+1))=_ from hnx,<-(show F0=_ from hF0),<-(show FB=_ from hFB),<-(show FE=_ from hFE)]
    refine⟨_,?_,hc5⟩
    have e:(F0++[s]++FB++FE).length=F0.length+1+FB.length+FE.length:=by simp only [List.length_append,List.length_cons,List.length_nil]
    rw [e]
    exact hown5
   go_roundg k1
   case measure=>omega
   case rel=>exact⟨i+1,by simp,by omega,by omega,HN⟩
  ·have hie:i=l.length:=by omega
   have t1:decide ((i:Int)<(l.length:Int))=false:=by simp;omega
   have e:l.take i=l:=by rw [hie,List.take_length]
   rw [e] at hrow
   go_wp2_with fail
   exact bodyPost_ret (v:=u3) (by simp [results,Tryz.results20,go_sem]) rfl ⟨u3,rfl,hrow,hR⟩
theorem flat_all {W0:World}:∀ (m:Nat),FlatC W0 m
 |0=>flat_step (fun h0=>absurd h0 (by omega))
 |m+1=>flat_step (fun _=>flat_all m)
end Go.Proofs.YtkplfaionpplaaaGreatDoor
namespace Go.Proofs.YtkplfaionpplaaaGreatDoor
open Go.RowKit
def leakCells (l:Al.Leak):List Value:=[.int .i64 l.kind,.int .i64 l.at_]
def leaksV (L:List Al.Leak):List Value:=L.flatMap leakCells
theorem leaksV_snoc (L:List Al.Leak)(l:Al.Leak):leaksV (L++[l])=leaksV L++leakCells l:=by simp [leaksV]
theorem leaks_len (L:List Al.Leak):(leaksV L).length=L.length * 2:=by
 induction L with
 |nil=>rfl
 |cons s l ih=>simp only [leaksV,List.flatMap_cons,List.length_append,List.length_cons] at ih ⊢;rw [ih];simp [leakCells];omega
theorem leaks_at (L:List Al.Leak)(k:Nat)(hk:k<L.length):(leaksV L)[k * 2]?=some (.int .i64 (L[k]).kind)/\(leaksV L)[k * 2+1]?=some (.int .i64 (L[k]).at_):=by
 induction L generalizing k with
 |nil=>simp at hk
 |cons s l ih=>
  cases k with
  |zero=>simp [leaksV,leakCells]
  |succ k=>
   have e0:(k+1) * 2=2+k * 2:=by omega
   have e:(k+1) * 2+1=2+(k * 2+1):=by omega
   simp only [leaksV,List.flatMap_cons] at ih ⊢
   rw [e,e0,List.getElem?_append_right (by simp [leakCells]),List.getElem?_append_right (by simp [leakCells])]
   have:=ih k (by simpa using hk)
   simpa [leakCells] using this
theorem leaks_get {w:World}{base:Nat}{a:Option Addr}{cap:Nat}{L:List Al.Leak}(h:w.ownsRow base 103 2 (.slice a L.length cap) L.length (leaksV L)){j:Nat}(hj:j<L.length):
  ∃ g,a=some ⟨g,0,none⟩/\w.cell? ⟨g,j * 2,none⟩=some (.int .i64 (L[j]).kind)/\w.cell? ⟨g,j * 2+1,none⟩=some (.int .i64 (L[j]).at_):=by
 obtain⟨g,c,hv,hgb,hgl⟩:=h.form (by omega)
 simp only [Value.slice.injEq] at hv
 have:=leaks_len L
 have h2:=leaks_at L j hj
 obtain⟨rfl, -,rfl⟩:=hv
 exact⟨g,rfl,by rw [h.cellAt _ (by omega),h2.1],by rw [h.cellAt _ (by omega),h2.2]⟩
theorem same_leak (w:World)(a b:Al.Leak):Calls Tryz.prog 48 #[.agg #[.int .i64 a.kind,.int .i64 a.at_],.agg #[.int .i64 b.kind,.int .i64 b.at_]] w fun e w'=>e= .returned (.bool (a.kind == b.kind && a.at_ == b.at_))/\Below w.heap.size w w':=by
 have hb0:Below w.heap.size w ((w.alloc (.cells #[.int .i64 a.kind,.int .i64 a.at_] 103)).alloc (.cells #[.int .i64 b.kind,.int .i64 b.at_] 103)):=alloc_two _ _ _
 cases z1:(a.kind == b.kind)
 ·go_enter Tryz.func48,Tryz.ntmps48
  go_wp2_with fail
  exact bodyPost_ret (v:= .bool false) (by simp [results,Tryz.results48,go_sem]) rfl ⟨rfl,hb0⟩
 ·cases z2:(a.at_ == b.at_)
  ·go_enter Tryz.func48,Tryz.ntmps48
   go_wp2_with fail
   exact bodyPost_ret (v:= .bool false) (by simp [results,Tryz.results48,go_sem]) rfl ⟨rfl,hb0⟩
  ·go_enter Tryz.func48,Tryz.ntmps48
   go_wp2_with fail
   exact bodyPost_ret (v:= .bool true) (by simp [results,Tryz.results48,go_sem]) rfl ⟨rfl,hb0⟩
theorem same_leaks {w:World}{base base2:Nat}{a a2:Option Addr}{cap cap2:Nat}{L:List Al.Leak}(h:w.ownsRow base 103 2 (.slice a L.length cap) L.length (leaksV L))(h2:w.ownsRow base2 103 2 (.slice a2 L.length cap2) L.length (leaksV L))(hL:L.length<1000000000000):
  Calls Tryz.prog 18 #[.slice a L.length cap,.slice a2 L.length cap2] w fun e w'=>e= .returned (.bool true)/\Below w.heap.size w w':=by
 have H:=Lib.hid h
 have H2:=Lib.hid h2
 have hlt:=h.lt
 have hlt2:=h2.lt
 clear h h2
 have z:((L.length:Int) == (L.length:Int))=true:=beq_self_eq_true _
 go_enter Tryz.func18,Tryz.ntmps18
 go_wp2_with fail
 go_loopg [5] (L.length+1) (fun gk v5 w'=>∃ j:Nat,v5= .int .i64 j/\j+gk=L.length+1/\j<=L.length/\Hid (Below w.heap.size w w'))
 case atStart=>exact⟨0,rfl,by omega,by omega,Lib.hid (Below.refl _ _)⟩
 case round=>
  obtain⟨j,rfl,hj,hj2,HB⟩:=hrel
  have hB:=show Below w.heap.size w wr from HB
  by_cases hjl:j<L.length
  ·obtain⟨k1,rfl⟩:∃ k1,gk=k1+1:=⟨gk - 1,by omega⟩
   obtain⟨g,rfl,c0,c1⟩:=leaks_get (show w.ownsRow base 103 2 (.slice a L.length cap) L.length (leaksV L) from H) hjl
   obtain⟨g2,rfl,d0,d1⟩:=leaks_get (show w.ownsRow base2 103 2 (.slice a2 L.length cap2) L.length (leaksV L) from H2) hjl
   replace c0:=cell_since hB c0
   replace c1:=cell_since hB c1
   replace d0:=cell_since hB d0
   replace d1:=cell_since hB d1
   obtain⟨x,hx⟩:∃ x,x=L[j]:=⟨_,rfl⟩
   rw [<-hx] at c0 c1 d0 d1
   replace hx:=Lib.hid hx
   have t1:decide ((j:Int)<(L.length:Int))=true:=by simp;omega
   have t2:(0:Int)<=(j:Int):=by omega
   have t3:(j:Int)<(L.length:Int):=by omega
   have HS:=same_leak wr x x
   have HSd:=same_leak wr.drew x x
   simp only [beq_self_eq_true,Bool.and_self] at HS HSd
   go_wp2_with fail
   go_still_tail 8,(by kernel_rfl)
   go_wp2_with (first|(go_at_call 48;refine HSd.mono ?_;rintro e w2 ⟨rfl,hb2'⟩;have hb2:=undrew hb2'))
   go_roundg k1
   case measure=>omega
   case rel=>exact⟨j+1,by simp,by omega,by omega,Lib.hid (hB.trans (lower_below hb2 hB.size))⟩
  ·have hje:j=L.length:=by omega
   have t1:decide ((j:Int)<(L.length:Int))=false:=by simp;omega
   go_wp2_with fail
   exact bodyPost_ret (v:= .bool true) (by simp [results,Tryz.results18,go_sem]) rfl ⟨rfl,hB⟩
end Go.Proofs.YtkplfaionpplaaaGreatDoor
namespace Go.Proofs.YtkplfaionpplaaaGreatDoor.Al
def wS (f:List Stmt->Int)(s:Stmt):Int:=
 (if s.op=7 then 8 else 1)+min (f s.body+f s.els) 1000 * (if s.op=15\/s.op=16 then max (min s.k 1000) 1 else 1)
def goW (f:List Stmt->Int):List Stmt->Int->Int
 |[],n=>n
 |s :: l,n=>if n<1000 then goW f l (n+wS f s) else n
def workF:Nat->List Stmt->Int
 |0,_=>1000
 |d+1,l=>min (goW (workF d) l 0) 1000
theorem wS_pos {f:List Stmt->Int}(hf:∀ l,0<=f l)(s:Stmt):1<=wS f s:=by
 unfold wS
 have h1:=hf s.body
 have h2:=hf s.els
 have:0<=min (f s.body+f s.els) 1000 * (if s.op=15\/s.op=16 then max (min s.k 1000) 1 else 1):=Int.mul_nonneg (by omega) (by split<;> omega)
 split<;> omega
theorem goW_ge {f:List Stmt->Int}(hf:∀ l,0<=f l):∀ (l:List Stmt) (n:Int),n<=goW f l n
 |[],n=>Int.le_refl _
 |s :: l,n=>by
  unfold goW
  split
  ·have:=goW_ge hf l (n+wS f s)
   have:=wS_pos hf s
   omega
  ·exact Int.le_refl _
theorem workF_nonneg:∀ (d:Nat) (l:List Stmt),0<=workF d l
 |0,_=>by unfold workF;decide
 |d+1,l=>by
  unfold workF
  have:=goW_ge (workF_nonneg d) l 0
  omega
theorem workF_le (d:Nat)(l:List Stmt):workF d l<=1000:=by cases d<;> unfold workF<;> omega
theorem flat_self (s:Stmt):s∈flatS s:=by cases s;simp [flatS]
theorem flat_bodyS {s t:Stmt}(h:t∈flatL s.body):t∈flatS s:=by cases s;simp only [flatS];exact List.mem_cons_of_mem _ (List.mem_append_left _ h)
end Go.Proofs.YtkplfaionpplaaaGreatDoor.Al
