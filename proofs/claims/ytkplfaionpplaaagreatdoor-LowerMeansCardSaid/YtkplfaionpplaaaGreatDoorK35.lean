/- Part 35: P39, B86, B88, P40. -/
import Derived.Test.YtkplfaionpplaaaGreatDoorK34
set_option maxRecDepth 100000
set_option maxHeartbeats 6400000
set_option linter.unusedVariables false
set_option linter.unusedSimpArgs false
namespace Go.Proofs.YtkplfaionpplaaaGreatDoor.Al
section
variable {E:Env} {fuel:Nat}
theorem ss_then {f:RS->RS}(h:∀ z,z.steps<=fuel->(f z).steps<=fuel)(x:RS)(hx:x.steps<=fuel):(x.stepThen fuel f).steps<=fuel:=by
 unfold RS.stepThen
 split
 ·exact hx
 ·exact h _ (by dsimp only;omega)
theorem ss_times {f:RS->RS}(h:∀ z,z.steps<=fuel->(f z).steps<=fuel):∀ (k:Nat) (x:RS),x.steps<=fuel->(timesN f k x).steps<=fuel
 |0,x,hx=>by unfold timesN;exact hx
 |k+1,x,hx=>by
  unfold timesN
  split
  ·exact hx
  ·exact ss_times h k _ (h x hx)
theorem ss_until {a:Nat}{f:RS->RS}(h:∀ z,z.steps<=fuel->(f z).steps<=fuel):∀ (k:Nat) (x:RS),x.steps<=fuel->(untilN fuel a f k x).steps<=fuel
 |0,x,hx=>by unfold untilN;exact hx
 |k+1,x,hx=>by
  unfold untilN
  refine ss_then (fun z hz=>?_) x hx
  have h1:=h z hz
  dsimp only
  split
  ·exact h1
  ·split
   ·exact h1
   ·exact ss_until h k _ h1
theorem ss_draw {d:Nat}:∀ (l:List Int) (i:Nat) (f:Nat->Int) (x:RS),x.steps<=fuel->(drawGo E fuel d l i f x).steps<=fuel
 |[],i,f,x,hx=>by unfold drawGo;split<;> exact hx
 |t :: rest,i,f,x,hx=>by
  unfold drawGo
  split
  ·refine ss_then (fun z hz=>?_) x hx
   dsimp only
   split
   ·exact ss_draw rest _ _ _ hz
   ·exact ss_draw rest _ _ _ hz
  ·exact hx
mutual
theorem ss_stmt:∀ (s:Stmt) (x:RS),x.steps<=fuel->(exS E fuel s x).steps<=fuel
 |⟨op,d,a,b,c,k,body,els⟩,x,hx=>by
  unfold exS
  split
  ·exact ss_until (fun z hz=>ss_list body z hz) _ _ hx
  ·refine ss_then (fun z hz=>?_) x hx
   dsimp only
   split
   ·exact ss_draw _ _ _ _ hz
   ·split
    ·split
     ·exact ss_list body _ hz
     ·exact ss_list els _ hz
    ·split
     ·exact ss_times (fun z hz=>ss_list body z hz) _ _ hz
     ·split
      ·exact hz
      ·exact hz
theorem ss_list:∀ (l:List Stmt) (x:RS),x.steps<=fuel->(exL E fuel l x).steps<=fuel
 |[],x,hx=>by unfold exL;exact hx
 |s :: l,x,hx=>by
  unfold exL
  split
  ·exact hx
  ·exact ss_list l _ (ss_stmt s x hx)
end
end
theorem exF_steps (p:Prog)(ins:List (List Int))(tape:List Int)(fuel:Nat):(exF p ins tape fuel).steps<=fuel:=ss_list p.body _ (Nat.zero_le _)
end Go.Proofs.YtkplfaionpplaaaGreatDoor.Al
namespace Go.Proofs.YtkplfaionpplaaaGreatDoor
open Go.RowKit Go.Proofs.YtkplfaionpplaaaGreatDoorW.PrintLast Go.Proofs.YtkplfaionpplaaaGreatDoorW.PrintWords
theorem light_parts2 {p:Al.Prog}{ni nt:Nat}(h:(lightF p && (decide (ni<=14) && decide (nt<=200)))=true):p.n<=16/\p.vars.length<=20/\(Al.flatL p.body).length<=30/\Al.workF 13 p.body<=400/\ni<=14/\nt<=200:=by
 unfold lightF at h
 simp only [Bool.and_eq_true,decide_eq_true_eq] at h
 exact⟨h.1.1,h.1.2.1,flatOk_len h.1.2.2.1,h.1.2.2.2,h.2.1,h.2.2⟩
theorem mem_hides {w:World}{p:Al.Prog}{Va Ab Ia Ta:Option Addr}{vc cb ic tc M:Nat}{ins:List (List Int)}{tape:List Int}(hp:PLies w p Va Ab vc cb)(hF:Al.Fine p)(hio:Al.InOk p ins tape)
  (hi:Kd.C (Kd.slice 3 (Kd.int .i64)) w Ia ins.length ins) (ht:(Kd.int .u32).C w Ta tape.length tape) (ht0:∀ x∈tape,0<=x/\x<4294967296) (hM:M=(envP p).mem):
  Calls Tryz.prog 11 #[.agg #[.int .i64 p.q,.int .i64 p.n,.slice Va p.vars.length vc,.slice Ab p.body.length cb],.int .i64 M,.slice Ia ins.length ic,.slice Ta tape.length tc] w fun e w'=>∃ ma mc,e= .returned (.slice ma M mc)/\w'.ownsRow w.heap.size 56 1 (.slice ma M mc) M (wordsV (Al.memF p M ins tape))/\Below w.heap.size w w':=by
 have hE:=Al.env_ok hF
 have hmem:=Al.endF_eq (bits:=Al.bitsOf p.q) hF
 have h1:Al.endF p+4096<=(M:Int):=by rw [hM,hmem];show _<=(((Al.envOf p (Al.bitsOf p.q)).mem:Nat):Int);unfold Al.Env.mem Al.Env.scratch;omega
 have h2:M<=65536:=by rw [hM];exact hE.mem_le
 refine (ref_memory hp hF hio hi ht ht0 h1 h2).mono ?_
 rintro e w' ⟨v,rfl,ho,hb⟩
 obtain⟨ma,mc,rfl⟩:=own_slice ho
 exact⟨ma,mc,rfl,ho,hb⟩
end Go.Proofs.YtkplfaionpplaaaGreatDoor
namespace Go.Proofs.YtkplfaionpplaaaGreatDoor
open Go.RowKit
theorem cut17 (w:World)(n:Int):Calls Tryz.prog 80 #[.int .i64 n,.bool true] w fun e w'=>e= .returned (.tuple #[.int .i64 n,.bool true])/\w=w':=by
 go_enter Tryz.func80,Tryz.ntmps80
 go_wp2_with fail
 exact bodyPost_ret (v:= .tuple #[.int .i64 n,.bool true]) (by simp [results,Tryz.results80,go_sem]) rfl ⟨rfl,rfl⟩
theorem sum17 (w:World)(a b:Int)(h: -9223372036854775808<=a+b/\a+b<=9223372036854775807):Calls Tryz.prog 79 #[.int .i64 a,.int .i64 b] w fun e w'=>e= .returned (.tuple #[.int .i64 (a+b),.bool true])/\w=w':=by
 have hs:wrap64 (a+b)=a+b:=by unfold wrap64;omega
 by_cases h0:0<b
 ·have t1:decide (a<a+b)=true:=decide_eq_true (by omega)
  have t2:decide (0<b)=true:=decide_eq_true h0
  have t3:(true == true)=true:=rfl
  clear h h0
  go_enter Tryz.func79,Tryz.ntmps79
  go_wp2_with fail
  exact bodyPost_ret (v:= .tuple #[.int .i64 (a+b),.bool true]) (by simp [results,Tryz.results79,go_sem,hs]) rfl ⟨rfl,rfl⟩
 ·have t1:decide (a<a+b)=false:=decide_eq_false (by omega)
  have t2:decide (0<b)=false:=decide_eq_false h0
  have t3:(false == false)=true:=rfl
  clear h h0
  go_enter Tryz.func79,Tryz.ntmps79
  go_wp2_with fail
  exact bodyPost_ret (v:= .tuple #[.int .i64 (a+b),.bool true]) (by simp [results,Tryz.results79,go_sem,hs]) rfl ⟨rfl,rfl⟩
theorem less17 (w:World)(a b:Int)(h: -9223372036854775808<=a - b/\a - b<=9223372036854775807):Calls Tryz.prog 81 #[.int .i64 a,.int .i64 b] w fun e w'=>e= .returned (.tuple #[.int .i64 (a - b),.bool true])/\w=w':=by
 have hs:wrap64 (a - b)=a - b:=by unfold wrap64;omega
 by_cases h0:0<b
 ·have t1:decide (a - b<a)=true:=decide_eq_true (by omega)
  have t2:decide (0<b)=true:=decide_eq_true h0
  have t3:(true == true)=true:=rfl
  clear h h0
  go_enter Tryz.func81,Tryz.ntmps81
  go_wp2_with fail
  exact bodyPost_ret (v:= .tuple #[.int .i64 (a - b),.bool true]) (by simp [results,Tryz.results81,go_sem,hs]) rfl ⟨rfl,rfl⟩
 ·have t1:decide (a - b<a)=false:=decide_eq_false (by omega)
  have t2:decide (0<b)=false:=decide_eq_false h0
  have t3:(false == false)=true:=rfl
  clear h h0
  go_enter Tryz.func81,Tryz.ntmps81
  go_wp2_with fail
  exact bodyPost_ret (v:= .tuple #[.int .i64 (a - b),.bool true]) (by simp [results,Tryz.results81,go_sem,hs]) rfl ⟨rfl,rfl⟩
theorem size17 (a:Int)(h: -9223372036854775808<=a/\a<=9223372036854775807):∃ m:Nat,m<=9223372036854775808/\((a<0/\a= -(m:Int)/\IntKind.u64.wrap (-(IntKind.u64.wrap a))=m)\/(0<=a/\a=m/\IntKind.u64.wrap a=m)):=by
 refine⟨a.natAbs,by omega,?_⟩
 have e:∀ n,IntKind.u64.wrap n=n % 18446744073709551616:=fun n=>IntKind.wrap_u64 n
 rw [e,e]
 by_cases h0:a<0
 ·exact .inl ⟨h0,by omega,by omega⟩
 ·exact .inr ⟨by omega,by omega,by omega⟩
theorem and63b (K:Nat)(h:K<9223372036854775808):bits BinOp.and IntKind.u64 (K:Int) 9223372036854775807=(K:Int):=by
 have e:bits BinOp.and IntKind.u64 (K:Int) ((9223372036854775807:Nat):Int)=_:=bits_and_u64_nat K 9223372036854775807 (by omega) (by omega)
 refine e.trans ?_
 rw [show (9223372036854775807:Nat)=2 ^ 63 - 1 by decide,Nat.and_two_pow_sub_one_eq_mod,Nat.mod_eq_of_lt (by omega)]
theorem product17 (w:World)(a b:Int)(ha: -9223372036854775808<=a/\a<=9223372036854775807)(hb: -9223372036854775808<=b/\b<=9223372036854775807)(h: -9223372036854775808<=a * b/\a * b<=9223372036854775807):
  Calls Tryz.prog 82 #[.int .i64 a,.int .i64 b] w fun e w'=>e= .returned (.tuple #[.int .i64 (a * b),.bool true])/\w=w':=by
 obtain⟨m,hm,hma⟩:=size17 a ha
 obtain⟨n,hn,hnb⟩:=size17 b hb
 obtain⟨K,hK⟩:∃ K,K=m * n:=⟨_,rfl⟩
 have kc:(K:Int)=(m:Int) * n:=by rw [hK];simp
 have hK1:K<=9223372036854775808:=by
  rcases hma with⟨_,e1,_⟩|⟨_,e1,_⟩<;> rcases hnb with⟨_,e2,_⟩|⟨_,e2,_⟩<;> rw [e1,e2] at h<;> simp only [Int.neg_mul_neg,Int.neg_mul,Int.mul_neg,<-kc] at h<;> omega
 have HM:∀ w0:World,Calls Tryz.prog 83 #[.int .u64 m,.int .u64 n] w0 fun e w'=>e= .returned (.tuple #[.int .u64 0,.int .u64 K])/\w0=w':=fun w0=>by
  refine (Tryz.bits_Mul64 m n (by omega) (by omega) w0).mono ?_
  rintro e w' ⟨rfl,rfl⟩
  rw [<-hK,Nat.div_eq_of_lt (by omega),Nat.mod_eq_of_lt (by omega)]
  exact⟨rfl,rfl⟩
 have z0:((0:Int) !=0)=false:=rfl
 have b1:(true !=true)=false:=rfl
 have b2:(false !=false)=false:=rfl
 have b3:(true !=false)=true:=rfl
 have b4:(false !=true)=true:=rfl
 have HC:=fun w0 n=>cut17 w0 n
 rcases hma with⟨a0,e1,x1⟩|⟨a0,e1,x1⟩<;> rcases hnb with⟨c0,e2,x2⟩|⟨c0,e2,x2⟩
 ·have t1:decide (a<0)=true:=decide_eq_true a0
  have t2:decide (b<0)=true:=decide_eq_true c0
  have hv:(K:Int)=a * b:=by rw [e1,e2,Int.neg_mul_neg];exact kc
  have y1:wrap64 (K:Int)=K:=by unfold wrap64;omega
  have y2:decide ((K:Int)<9223372036854775808)=true:=decide_eq_true (by omega)
  rw [<-hv]
  clear h ha hb hm hn hK kc hK1 hv e1 e2 a0 c0
  go_enter Tryz.func82,Tryz.ntmps82
  go_wp2_with (first|(go_at_call 83;refine (HM _).mono ?_;rintro e w1 ⟨rfl,rfl⟩))
  exact bodyPost_ret (v:= .tuple #[.int .i64 K,.bool true]) (by simp [results,Tryz.results82,go_sem,y1]) rfl ⟨rfl,rfl⟩
 ·have t1:decide (a<0)=true:=decide_eq_true a0
  have t2:decide (b<0)=false:=decide_eq_false (by omega)
  have hv: -(K:Int)=a * b:=by rw [e1,e2,Int.neg_mul];rw [kc]
  rw [<-hv]
  by_cases hq:K=9223372036854775808
  ·have y:((K:Int) == 9223372036854775808)=true:=beq_iff_eq.2 (by omega)
   rw [show -(K:Int)= -9223372036854775808 by omega]
   clear h ha hb hm hn hK kc hK1 hv e1 e2 a0 c0 hq
   go_enter Tryz.func82,Tryz.ntmps82
   go_wp2_with (first|(go_at_call 83;refine (HM _).mono ?_;rintro e w1 ⟨rfl,rfl⟩))
   exact bodyPost_ret (v:= .tuple #[.int .i64 (-9223372036854775808),.bool true]) (by simp [results,Tryz.results82,go_sem]) rfl ⟨rfl,rfl⟩
  ·have y:((K:Int) == 9223372036854775808)=false:=beq_false_of_ne (by omega)
   have y0:=and63b K (by omega)
   have y2:decide ((K:Int)<9223372036854775808)=true:=decide_eq_true (by omega)
   have ⟨y1,y3⟩:wrap64 (K:Int)=K/\wrap64 (-(K:Int))= -(K:Int):=by unfold wrap64;omega
   clear h ha hb hm hn hK kc hK1 hv e1 e2 a0 c0 hq
   go_enter Tryz.func82,Tryz.ntmps82
   go_wp2_with (first|(go_at_call 83;refine (HM _).mono ?_;rintro e w1 ⟨rfl,rfl⟩)|(go_at_call 80;refine (HC _ _).mono ?_;rintro e w1 ⟨rfl,rfl⟩))
   exact bodyPost_ret (v:= .tuple #[.int .i64 (-(K:Int)),.bool true]) (by simp [results,Tryz.results82,go_sem,y0,y1,y3]) rfl ⟨rfl,rfl⟩
 ·have t1:decide (a<0)=false:=decide_eq_false (by omega)
  have t2:decide (b<0)=true:=decide_eq_true c0
  have hv: -(K:Int)=a * b:=by rw [e1,e2,Int.mul_neg];rw [kc]
  rw [<-hv]
  by_cases hq:K=9223372036854775808
  ·have y:((K:Int) == 9223372036854775808)=true:=beq_iff_eq.2 (by omega)
   rw [show -(K:Int)= -9223372036854775808 by omega]
   clear h ha hb hm hn hK kc hK1 hv e1 e2 a0 c0 hq
   go_enter Tryz.func82,Tryz.ntmps82
   go_wp2_with (first|(go_at_call 83;refine (HM _).mono ?_;rintro e w1 ⟨rfl,rfl⟩))
   exact bodyPost_ret (v:= .tuple #[.int .i64 (-9223372036854775808),.bool true]) (by simp [results,Tryz.results82,go_sem]) rfl ⟨rfl,rfl⟩
  ·have y:((K:Int) == 9223372036854775808)=false:=beq_false_of_ne (by omega)
   have y0:=and63b K (by omega)
   have y2:decide ((K:Int)<9223372036854775808)=true:=decide_eq_true (by omega)
   have ⟨y1,y3⟩:wrap64 (K:Int)=K/\wrap64 (-(K:Int))= -(K:Int):=by unfold wrap64;omega
   clear h ha hb hm hn hK kc hK1 hv e1 e2 a0 c0 hq
   go_enter Tryz.func82,Tryz.ntmps82
   go_wp2_with (first|(go_at_call 83;refine (HM _).mono ?_;rintro e w1 ⟨rfl,rfl⟩)|(go_at_call 80;refine (HC _ _).mono ?_;rintro e w1 ⟨rfl,rfl⟩))
   exact bodyPost_ret (v:= .tuple #[.int .i64 (-(K:Int)),.bool true]) (by simp [results,Tryz.results82,go_sem,y0,y1,y3]) rfl ⟨rfl,rfl⟩
 ·have t1:decide (a<0)=false:=decide_eq_false (by omega)
  have t2:decide (b<0)=false:=decide_eq_false (by omega)
  have hv:(K:Int)=a * b:=by rw [e1,e2];exact kc
  have y1:wrap64 (K:Int)=K:=by unfold wrap64;omega
  have y2:decide ((K:Int)<9223372036854775808)=true:=decide_eq_true (by omega)
  rw [<-hv]
  clear h ha hb hm hn hK kc hK1 hv e1 e2 a0 c0
  go_enter Tryz.func82,Tryz.ntmps82
  go_wp2_with (first|(go_at_call 83;refine (HM _).mono ?_;rintro e w1 ⟨rfl,rfl⟩))
  exact bodyPost_ret (v:= .tuple #[.int .i64 K,.bool true]) (by simp [results,Tryz.results82,go_sem,y1]) rfl ⟨rfl,rfl⟩
theorem sgn_range {a:Int}(ha:0<=a/\a<18446744073709551616): -9223372036854775808<=Al.sgn a/\Al.sgn a<=9223372036854775807:=by unfold Al.sgn;split<;> omega
theorem sgn_wrap {a:Int}(ha:0<=a/\a<18446744073709551616):wrap64 a=Al.sgn a:=by unfold wrap64 Al.sgn;split<;> omega
theorem exact_3 (w:World)(d x y z k a b:Int)(ha:0<=a/\a<18446744073709551616)(hb:0<=b/\b<18446744073709551616)(h:Al.inI64 (Al.sgn a+Al.sgn b)):
  Calls Tryz.prog 44 #[.agg #[.int .i64 3,.int .i64 d,.int .i64 x,.int .i64 y,.int .i64 z,.int .i64 k],.int .u64 a,.int .u64 b] w fun e w'=>e= .returned (.tuple #[.int .i64 (Al.sgn a+Al.sgn b),.bool true])/\Below w.heap.size w w':=by
 have hb0:Below w.heap.size w (w.alloc (.cells #[.int .i64 3,.int .i64 d,.int .i64 x,.int .i64 y,.int .i64 z,.int .i64 k] 97)):=(Below.refl _ _).alloc (Nat.le_refl _) _
 have hA:=sgn_range ha
 have hB:=sgn_range hb
 have sA:=sgn_wrap ha
 have sB:=sgn_wrap hb
 obtain⟨A,eA⟩:∃ A,A=Al.sgn a:=⟨_,rfl⟩
 obtain⟨B,eB⟩:∃ B,B=Al.sgn b:=⟨_,rfl⟩
 rw [<-eA] at hA sA h ⊢
 rw [<-eB] at hB sB h ⊢
 have HC:=fun w0 n=>cut17 w0 n
 have HF:=fun w0=>sum17 w0 A B h
 clear eA eB hA hB ha hb h
 go_enter Tryz.func44,Tryz.ntmps44
 go_wp2_with (first|(go_at_call 79;refine (HF _).mono ?_;rintro e w1 ⟨rfl,rfl⟩)|(go_at_call 80;refine (HC _ _).mono ?_;rintro e w1 ⟨rfl,rfl⟩))
 exact bodyPost_ret (v:= .tuple #[.int .i64 (A+B),.bool true]) (by simp [results,Tryz.results44,go_sem]) rfl ⟨rfl,hb0⟩
theorem exact_4 (w:World)(d x y z k a b:Int)(ha:0<=a/\a<18446744073709551616)(hb:0<=b/\b<18446744073709551616)(h:Al.inI64 (Al.sgn a - Al.sgn b)):
  Calls Tryz.prog 44 #[.agg #[.int .i64 4,.int .i64 d,.int .i64 x,.int .i64 y,.int .i64 z,.int .i64 k],.int .u64 a,.int .u64 b] w fun e w'=>e= .returned (.tuple #[.int .i64 (Al.sgn a - Al.sgn b),.bool true])/\Below w.heap.size w w':=by
 have hb0:Below w.heap.size w (w.alloc (.cells #[.int .i64 4,.int .i64 d,.int .i64 x,.int .i64 y,.int .i64 z,.int .i64 k] 97)):=(Below.refl _ _).alloc (Nat.le_refl _) _
 have hA:=sgn_range ha
 have hB:=sgn_range hb
 have sA:=sgn_wrap ha
 have sB:=sgn_wrap hb
 obtain⟨A,eA⟩:∃ A,A=Al.sgn a:=⟨_,rfl⟩
 obtain⟨B,eB⟩:∃ B,B=Al.sgn b:=⟨_,rfl⟩
 rw [<-eA] at hA sA h ⊢
 rw [<-eB] at hB sB h ⊢
 have HC:=fun w0 n=>cut17 w0 n
 have HF:=fun w0=>less17 w0 A B h
 clear eA eB hA hB ha hb h
 go_enter Tryz.func44,Tryz.ntmps44
 go_wp2_with (first|(go_at_call 81;refine (HF _).mono ?_;rintro e w1 ⟨rfl,rfl⟩)|(go_at_call 80;refine (HC _ _).mono ?_;rintro e w1 ⟨rfl,rfl⟩))
 exact bodyPost_ret (v:= .tuple #[.int .i64 (A - B),.bool true]) (by simp [results,Tryz.results44,go_sem]) rfl ⟨rfl,hb0⟩
theorem exact_5 (w:World)(d x y z k a b:Int)(ha:0<=a/\a<18446744073709551616)(hb:0<=b/\b<18446744073709551616)(h:Al.inI64 (Al.sgn a * Al.sgn b)):
  Calls Tryz.prog 44 #[.agg #[.int .i64 5,.int .i64 d,.int .i64 x,.int .i64 y,.int .i64 z,.int .i64 k],.int .u64 a,.int .u64 b] w fun e w'=>e= .returned (.tuple #[.int .i64 (Al.sgn a * Al.sgn b),.bool true])/\Below w.heap.size w w':=by
 have hb0:Below w.heap.size w (w.alloc (.cells #[.int .i64 5,.int .i64 d,.int .i64 x,.int .i64 y,.int .i64 z,.int .i64 k] 97)):=(Below.refl _ _).alloc (Nat.le_refl _) _
 have hA:=sgn_range ha
 have hB:=sgn_range hb
 have sA:=sgn_wrap ha
 have sB:=sgn_wrap hb
 obtain⟨A,eA⟩:∃ A,A=Al.sgn a:=⟨_,rfl⟩
 obtain⟨B,eB⟩:∃ B,B=Al.sgn b:=⟨_,rfl⟩
 rw [<-eA] at hA sA h ⊢
 rw [<-eB] at hB sB h ⊢
 have HC:=fun w0 n=>cut17 w0 n
 have HF:=fun w0=>product17 w0 A B hA hB h
 clear eA eB hA hB ha hb h
 go_enter Tryz.func44,Tryz.ntmps44
 go_wp2_with (first|(go_at_call 82;refine (HF _).mono ?_;rintro e w1 ⟨rfl,rfl⟩)|(go_at_call 80;refine (HC _ _).mono ?_;rintro e w1 ⟨rfl,rfl⟩))
 exact bodyPost_ret (v:= .tuple #[.int .i64 (A * B),.bool true]) (by simp [results,Tryz.results44,go_sem]) rfl ⟨rfl,hb0⟩
theorem exact_10 (w:World)(d x y z k a b:Int)(ha:0<=a/\a<18446744073709551616)(hb:0<=b/\b<18446744073709551616)(hk:0<=k/\k<=63)(h:Al.inI64 (Al.sgn a * 2 ^ k.toNat)):
  Calls Tryz.prog 44 #[.agg #[.int .i64 10,.int .i64 d,.int .i64 x,.int .i64 y,.int .i64 z,.int .i64 k],.int .u64 a,.int .u64 b] w fun e w'=>e= .returned (.tuple #[.int .i64 (Al.sgn a * 2 ^ k.toNat),.bool true])/\Below w.heap.size w w':=by
 have hb0:Below w.heap.size w (w.alloc (.cells #[.int .i64 10,.int .i64 d,.int .i64 x,.int .i64 y,.int .i64 z,.int .i64 k] 97)):=(Below.refl _ _).alloc (Nat.le_refl _) _
 have sA:=sgn_wrap ha
 obtain⟨A,eA⟩:∃ A,A=Al.sgn a:=⟨_,rfl⟩
 rw [<-eA] at sA h ⊢
 have t0:decide (k<0)=false:=decide_eq_false (by omega)
 have t1:decide (63<k)=false:=decide_eq_false (by omega)
 obtain⟨k,rfl⟩:=Int.eq_ofNat_of_zero_le hk.1
 have h6:k<64:=by omega
 have h7:IntKind.u64.wrap (k:Int)=k:=IntWalk.u64_in _ (by omega)
 rw [Int.toNat_natCast] at h ⊢
 have hp:(0:Int)<2 ^ k:=Int.pow_pos (by omega)
 have q1:A * 2 ^ k / 2 ^ k=A:=Int.mul_ediv_cancel _ (by omega)
 have q3:(A == A)=true:=beq_self_eq_true A
 obtain⟨V,eV⟩:∃ V,V=A * 2 ^ k:=⟨_,rfl⟩
 rw [<-eV] at h q1 ⊢
 have q2:wrap64 V=V:=by unfold Al.inI64 at h;unfold wrap64;omega
 have HC:=fun w0 n=>cut17 w0 n
 replace eV:=Lib.hid eV
 clear eA ha hb h hp hk
 go_enter Tryz.func44,Tryz.ntmps44
 go_upto_region 15 with fail
 simp only [<-(show V=A * 2 ^ k from eV),q2]
 go_wp2_with (first|(go_at_call 80;refine (HC _ _).mono ?_;rintro e w1 ⟨rfl,rfl⟩))
 exact bodyPost_ret (v:= .tuple #[.int .i64 V,.bool true]) (by simp [results,Tryz.results44,go_sem]) rfl ⟨rfl,hb0⟩
theorem exact17 (w:World)(i:Al.Inst)(s:Al.Span)(a b:Int)(ha:0<=a/\a<18446744073709551616)(hb:0<=b/\b<18446744073709551616)(ho:(3<=i.op/\i.op<=5)\/i.op=10)(h:Al.inside i s a b):
  ∃ n:Int,(s.low<=n/\n<=s.high)/\∀ w0:World,Calls Tryz.prog 44 #[.agg #[.int .i64 i.op,.int .i64 i.d,.int .i64 i.a,.int .i64 i.b,.int .i64 i.c,.int .i64 i.k],.int .u64 a,.int .u64 b] w0 fun e w'=>e= .returned (.tuple #[.int .i64 n,.bool true])/\Below w0.heap.size w0 w':=by
 obtain⟨op,d,x,y,z,k⟩:=i
 simp only at ho ⊢
 unfold Al.inside at h
 simp only at h
 have h4:op=3\/op=4\/op=5\/op=10:=by omega
 rcases h4 with rfl|rfl|rfl|rfl
 ·rw [if_pos rfl] at h
  exact⟨_,h.2,fun w0=>exact_3 w0 d x y z k a b ha hb h.1⟩
 ·rw [if_neg (by decide),if_pos rfl] at h
  exact⟨_,h.2,fun w0=>exact_4 w0 d x y z k a b ha hb h.1⟩
 ·rw [if_neg (by decide),if_neg (by decide),if_pos rfl] at h
  exact⟨_,h.2,fun w0=>exact_5 w0 d x y z k a b ha hb h.1⟩
 ·rw [if_neg (by decide),if_neg (by decide),if_neg (by decide),if_pos rfl] at h
  exact⟨_,h.2.2.2,fun w0=>exact_10 w0 d x y z k a b ha hb ⟨h.1,h.2.1⟩ h.2.2.1⟩
end Go.Proofs.YtkplfaionpplaaaGreatDoor
namespace Go.Proofs.YtkplfaionpplaaaGreatDoor.Al
section
variable {c:List Inst} {sp:List Span} {M:Int} {k pc:Nat} {regs mem:List Int} {leaks:List Leak} {steps:Int} {R:RRes}
theorem srrun_inside (h:rrun c sp M k pc regs mem leaks steps=R)(hc:R.code<=2):pc<c.length:=by
 rcases Nat.lt_or_ge pc c.length with hl|hl
 ·exact hl
 ·unfold rrun at h
  rw [if_pos (by omega)] at h
  rw [<-h] at hc
  simp at hc
theorem srun_k (h:rrun c sp M k pc regs mem leaks steps=R)(hc:R.code<=2):∃ k',k=k'+1:=by
 have hl:=srrun_inside h hc
 cases k with
 |succ k=>exact⟨k,rfl⟩
 |zero=>
  unfold rrun at h
  rw [if_neg (by omega)] at h
  rw [<-h] at hc
  simp at hc
theorem srun_step (h:rrun c sp M (k+1) pc regs mem leaks steps=R)(hl:pc<c.length)(i:Inst)(hi:i=c[pc]):
  (if i.op=15\/i.op=16 then
    if wrapU (gI regs i.a+wrapU i.k)>=M then ⟨3,mem,leaks++[⟨1,pc⟩]++[⟨3,sgn (wrapU (gI regs i.a+wrapU i.k))⟩],steps+1, -1⟩ else
    if i.op=15 then rrun c sp M k ((pc:Int)+1) (setI regs i.d (gI mem (wrapU (gI regs i.a+wrapU i.k)))) mem (leaks++[⟨1,pc⟩]++[⟨3,sgn (wrapU (gI regs i.a+wrapU i.k))⟩]) (steps+1)
    else rrun c sp M k ((pc:Int)+1) regs (setI mem (wrapU (gI regs i.a+wrapU i.k)) (gI regs i.b)) (leaks++[⟨1,pc⟩]++[⟨3,sgn (wrapU (gI regs i.a+wrapU i.k))⟩]) (steps+1)
   else if i.op=17 then rrun c sp M k i.k regs mem (leaks++[⟨1,pc⟩]) (steps+1)
   else if i.op=18\/i.op=19 then rrun c sp M k (if decide (decide (gI regs i.a=0)=decide (i.op=18))=true then i.k else (pc:Int)+1) regs mem (leaks++[⟨1,pc⟩]++[⟨2,if decide (decide (gI regs i.a=0)=decide (i.op=18))=true then 1 else 0⟩]) (steps+1)
   else if i.op=20 then ⟨i.k,mem,leaks++[⟨1,pc⟩],steps+1, -1⟩
   else if sp≠[]/\¬inside i (sp.getD pc default) (gI regs i.a) (gI regs i.b) then ⟨0,mem,leaks++[⟨1,pc⟩],steps+1,pc⟩
   else rrun c sp M k ((pc:Int)+1) (setI regs i.d (wvalue i (gI regs i.a) (gI regs i.b) (gI regs i.c))) mem (leaks++[⟨1,pc⟩]) (steps+1))=R:=by
 unfold rrun at h
 rw [if_neg (by omega)] at h
 have e:c.getD (pc:Int).toNat default=i:=by simp [List.getD_eq_getElem?_getD,hl,hi]
 simp only [e] at h
 simpa using h
theorem srun_ls (h:rrun c sp M (k+1) pc regs mem leaks steps=R)(hc:R.code<=2)(hl:pc<c.length){i:Inst}(hi:i=c[pc])(ho:i.op=15\/i.op=16)(hM:M<=65536):
  ∃ at_:Nat,wrapU (gI regs i.a+wrapU i.k)=at_/\(at_:Int)<M/\
   (i.op=15->rrun c sp M k (pc+1:Nat) (setI regs i.d (gI mem at_)) mem (leaks++[⟨1,pc⟩]++[⟨3,at_⟩]) (steps+1)=R)/\
   (i.op=16->rrun c sp M k (pc+1:Nat) regs (setI mem at_ (gI regs i.b)) (leaks++[⟨1,pc⟩]++[⟨3,at_⟩]) (steps+1)=R):=by
 have h:=srun_step h hl i hi
 rw [if_pos ho] at h
 by_cases hm:wrapU (gI regs i.a+wrapU i.k)>=M
 ·rw [if_pos hm] at h;rw [<-h] at hc;simp at hc
 rw [if_neg hm] at h
 have h0:0<=wrapU (gI regs i.a+wrapU i.k):=by unfold wrapU;omega
 obtain⟨at_,ha⟩:=Int.eq_ofNat_of_zero_le h0
 rw [ha] at h hm
 have hs:sgn (at_:Int)=at_:=sgn_at (by omega)
 rw [hs] at h
 refine⟨at_,ha,by omega,fun ho=>?_,fun ho=>?_⟩
 ·rw [if_pos ho] at h;exact h
 ·rw [if_neg (by omega)] at h;exact h
theorem srun_br (h:rrun c sp M (k+1) pc regs mem leaks steps=R)(hl:pc<c.length){i:Inst}(hi:i=c[pc])(ho:i.op=17):
  rrun c sp M k i.k regs mem (leaks++[⟨1,pc⟩]) (steps+1)=R:=by
 have h:=srun_step h hl i hi
 rw [if_neg (by omega),if_pos ho] at h
 exact h
theorem srun_bz (h:rrun c sp M (k+1) pc regs mem leaks steps=R)(hl:pc<c.length){i:Inst}(hi:i=c[pc])(ho:i.op=18\/i.op=19){goes:Bool}(hg:goes=decide (decide (gI regs i.a=0)=decide (i.op=18))):
  rrun c sp M k (if goes=true then i.k else ((pc+1:Nat):Int)) regs mem (leaks++[⟨1,pc⟩]++[⟨2,if goes=true then 1 else 0⟩]) (steps+1)=R:=by
 have h:=srun_step h hl i hi
 rw [if_neg (by omega),if_neg (by omega),if_pos ho,<-hg] at h
 exact h
theorem srun_halt (h:rrun c sp M (k+1) pc regs mem leaks steps=R)(hl:pc<c.length){i:Inst}(hi:i=c[pc])(ho:i.op=20):
  R=⟨i.k,mem,leaks++[⟨1,pc⟩],steps+1, -1⟩:=by
 have h:=srun_step h hl i hi
 rw [if_neg (by omega),if_neg (by omega),if_neg (by omega),if_pos ho] at h
 exact h.symm
theorem srun_val (h:rrun c sp M (k+1) pc regs mem leaks steps=R)(hw:R.wrong= -1)(hl:pc<c.length){i:Inst}(hi:i=c[pc])(ho:1<=i.op/\i.op<=14):
  rrun c sp M k (pc+1:Nat) (setI regs i.d (wvalue i (gI regs i.a) (gI regs i.b) (gI regs i.c))) mem (leaks++[⟨1,pc⟩]) (steps+1)=R/\(sp≠[]->inside i (sp.getD pc default) (gI regs i.a) (gI regs i.b)):=by
 have h:=srun_step h hl i hi
 rw [if_neg (by omega),if_neg (by omega),if_neg (by omega),if_neg (by omega)] at h
 by_cases hs:sp≠[]/\¬inside i (sp.getD pc default) (gI regs i.a) (gI regs i.b)
 ·rw [if_pos hs] at h
  rw [<-h] at hw
  simp at hw
 ·rw [if_neg hs] at h
  exact⟨h,fun hne=>Decidable.byContradiction fun hi=>hs ⟨hne,hi⟩⟩
end
end Go.Proofs.YtkplfaionpplaaaGreatDoor.Al
