/- Part 35: P39, B86, B68. -/
import Derived.Test.YtkplfaionpplaaaGreatDoorK34
import Derived.Deep.Slices
import Derived.ChangeArms
import Derived.WideShapes
set_option maxRecDepth 100000
set_option maxHeartbeats 6400000
set_option linter.unusedVariables false
set_option linter.unusedSimpArgs false
namespace Go.Proofs.YtkplfaionpplaaaGreatDoor.Al
section
variable {E:Env} {fuel:Nat}
theorem ss_then {f:RS->RS}(h:∀ z,z.steps<=fuel->(f z).steps<=fuel)(x:RS)(hx:x.steps<=fuel):(x.stepThen fuel f).steps<=fuel:=by
 unfold RS.stepThen
 split
 ·exact hx
 ·exact h _ (by dsimp only;omega)
theorem ss_times {f:RS->RS}(h:∀ z,z.steps<=fuel->(f z).steps<=fuel):∀ (k:Nat) (x:RS),x.steps<=fuel->(timesN f k x).steps<=fuel
 |0,x,hx=>by unfold timesN;exact hx
 |k+1,x,hx=>by
  unfold timesN
  split
  ·exact hx
  ·exact ss_times h k _ (h x hx)
theorem ss_until {a:Nat}{f:RS->RS}(h:∀ z,z.steps<=fuel->(f z).steps<=fuel):∀ (k:Nat) (x:RS),x.steps<=fuel->(untilN fuel a f k x).steps<=fuel
 |0,x,hx=>by unfold untilN;exact hx
 |k+1,x,hx=>by
  unfold untilN
  refine ss_then (fun z hz=>?_) x hx
  have h1:=h z hz
  dsimp only
  split
  ·exact h1
  ·split
   ·exact h1
   ·exact ss_until h k _ h1
theorem ss_draw {d:Nat}:∀ (l:List Int) (i:Nat) (f:Nat->Int) (x:RS),x.steps<=fuel->(drawGo E fuel d l i f x).steps<=fuel
 |[],i,f,x,hx=>by unfold drawGo;split<;> exact hx
 |t :: rest,i,f,x,hx=>by
  unfold drawGo
  split
  ·refine ss_then (fun z hz=>?_) x hx
   dsimp only
   split
   ·exact ss_draw rest _ _ _ hz
   ·exact ss_draw rest _ _ _ hz
  ·exact hx
mutual
theorem ss_stmt:∀ (s:Stmt) (x:RS),x.steps<=fuel->(exS E fuel s x).steps<=fuel
 |⟨op,d,a,b,c,k,body,els⟩,x,hx=>by
  unfold exS
  split
  ·exact ss_until (fun z hz=>ss_list body z hz) _ _ hx
  ·refine ss_then (fun z hz=>?_) x hx
   dsimp only
   split
   ·exact ss_draw _ _ _ _ hz
   ·split
    ·split
     ·exact ss_list body _ hz
     ·exact ss_list els _ hz
    ·split
     ·exact ss_times (fun z hz=>ss_list body z hz) _ _ hz
     ·split
      ·exact hz
      ·exact hz
theorem ss_list:∀ (l:List Stmt) (x:RS),x.steps<=fuel->(exL E fuel l x).steps<=fuel
 |[],x,hx=>by unfold exL;exact hx
 |s :: l,x,hx=>by
  unfold exL
  split
  ·exact hx
  ·exact ss_list l _ (ss_stmt s x hx)
end
end
theorem exF_steps (p:Prog)(ins:List (List Int))(tape:List Int)(fuel:Nat):(exF p ins tape fuel).steps<=fuel:=ss_list p.body _ (Nat.zero_le _)
theorem hides_run {p:Prog}(hF:Fine p)(hn:p.n<=16){c:List CI}{len:Nat}(hlen:len=bodyP p.body+(genL (envOf p (bitsOf p.q)) 0 0 0 (bodyP p.body) p.body).length)
  (hc:c=progC (envOf p (bitsOf p.q)) p.body (outT len) (outG len p.body)) {insA insB:List (List Int)} {sA sB:List Int} (hA:InOk p insA sA) (hB:InOk p insB sB) (htA:∀ x∈sA,0<=x/\x<4294967296) (htB:∀ x∈sB,0<=x/\x<4294967296)
  {st:Nat} {code:Int} (h4:code≠4) (cA:(exF p insA sA 2000).code=code) (cB:(exF p insB sB 2000).code=code) (sa:(exF p insA sA 2000).steps<=st) (sb:(exF p insB sB 2000).steps<=st) (hst:st<=2000)
  (hev:(exF p insA sA 2000).evs=(exF p insB sB 2000).evs):
  ∃ (fuel:Nat) (L:List Leak),((st:Int)+1) * (16 * p.n * p.n+16384)=(fuel:Int)/\fuel<=2147483648/\L.length<1000000000000/\(0<=code/\code<=2)/\
   (∃ mem' t,rrun (insts c) [] (envOf p (bitsOf p.q)).mem fuel 0 (List.replicate 25 0) (memF p (envOf p (bitsOf p.q)).mem insA sA) [] 0=⟨code,mem',L,t, -1⟩)/\
   (∃ mem' t,rrun (insts c) [] (envOf p (bitsOf p.q)).mem fuel 0 (List.replicate 25 0) (memF p (envOf p (bitsOf p.q)).mem insB sB) [] 0=⟨code,mem',L,t, -1⟩):=by
 obtain⟨C,h⟩:=runs_law hF hlen hc 2000
 have h4':=hF.n.1
 have e2:(envOf p (bitsOf p.q)).n=p.n.toNat:=rfl
 have e1:((st:Int)+1) * (16 * p.n * p.n+16384)=(((st+1) * Wd (envOf p (bitsOf p.q)):Nat):Int):=by
  have e3:((p.n.toNat:Nat):Int)=p.n:=by omega
  unfold Wd
  rw [e2]
  rw [Int.natCast_mul,Int.natCast_add,Int.natCast_add,Int.natCast_mul,Int.natCast_mul,e3]
  rfl
 have hW:Wd (envOf p (bitsOf p.q))<=20480:=by
  have h5:p.n.toNat<=16:=by omega
  have h6:p.n.toNat * p.n.toNat<=16 * 16:=Nat.mul_le_mul h5 h5
  unfold Wd
  rw [e2,Nat.mul_assoc]
  omega
 have e4:(st+1) * Wd (envOf p (bitsOf p.q))<=2001 * 20480:=Nat.mul_le_mul (by omega) hW
 obtain⟨mA,tA,rA, -, -,hcd, -⟩:=h insA sA hA htA (by rw [cA];exact h4) [] (.inl rfl) _ (Nat.mul_le_mul_right _ (Nat.add_le_add_right sa 1))
 obtain⟨mB,tB,rB, -⟩:=h insB sB hB htB (by rw [cB];exact h4) [] (.inl rfl) _ (Nat.mul_le_mul_right _ (Nat.add_le_add_right sb 1))
 rw [cA] at rA hcd
 rw [cB,<-hev] at rB
 refine⟨_,_,e1,by omega,?_,⟨hcd.1,hcd.2.1⟩,⟨mA,tA,rA⟩,⟨mB,tB,rB⟩⟩
 have:=rrun_leaks (insts c) [] (envOf p (bitsOf p.q)).mem ((st+1) * Wd (envOf p (bitsOf p.q))) 0 (List.replicate 25 0) (memF p (envOf p (bitsOf p.q)).mem insA sA) [] 0
 rw [rA] at this
 simp at this
 omega
end Go.Proofs.YtkplfaionpplaaaGreatDoor.Al
namespace Go.Proofs.YtkplfaionpplaaaGreatDoor
open Go.RowKit Go.Proofs.YtkplfaionpplaaaGreatDoorW.PrintLast Go.Proofs.YtkplfaionpplaaaGreatDoorW.PrintWords
theorem light_parts2 {p:Al.Prog}{ni nt:Nat}(h:(lightF p && (decide (ni<=14) && decide (nt<=200)))=true):p.n<=16/\p.vars.length<=20/\(Al.flatL p.body).length<=30/\Al.workF 13 p.body<=400/\ni<=14/\nt<=200:=by
 unfold lightF at h
 simp only [Bool.and_eq_true,decide_eq_true_eq] at h
 exact⟨h.1.1,h.1.2.1,flatOk_len h.1.2.2.1,h.1.2.2.2,h.2.1,h.2.2⟩
theorem mem_hides {w:World}{p:Al.Prog}{Va Ab Ia Ta:Option Addr}{vc cb ic tc M:Nat}{ins:List (List Int)}{tape:List Int}(hp:PLies w p Va Ab vc cb)(hF:Al.Fine p)(hio:Al.InOk p ins tape)
  (hi:Kd.C (Kd.slice 3 (Kd.int .i64)) w Ia ins.length ins) (ht:(Kd.int .u32).C w Ta tape.length tape) (ht0:∀ x∈tape,0<=x/\x<4294967296) (hM:M=(envP p).mem):
  Calls Tryz.prog 11 #[.agg #[.int .i64 p.q,.int .i64 p.n,.slice Va p.vars.length vc,.slice Ab p.body.length cb],.int .i64 M,.slice Ia ins.length ic,.slice Ta tape.length tc] w fun e w'=>∃ ma mc,e= .returned (.slice ma M mc)/\w'.ownsRow w.heap.size 56 1 (.slice ma M mc) M (wordsV (Al.memF p M ins tape))/\Below w.heap.size w w':=by
 have hE:=Al.env_ok hF
 have hmem:=Al.endF_eq (bits:=Al.bitsOf p.q) hF
 have h1:Al.endF p+4096<=(M:Int):=by rw [hM,hmem];show _<=(((Al.envOf p (Al.bitsOf p.q)).mem:Nat):Int);unfold Al.Env.mem Al.Env.scratch;omega
 have h2:M<=65536:=by rw [hM];exact hE.mem_le
 refine (ref_memory hp hF hio hi ht ht0 h1 h2).mono ?_
 rintro e w' ⟨v,rfl,ho,hb⟩
 obtain⟨ma,mc,rfl⟩:=own_slice ho
 exact⟨ma,mc,rfl,ho,hb⟩
theorem run_hides {w:World}{p:Al.Prog}{CI:List Al.Inst}{M fuel b1 b2 ic mc:Nat}{ia ma:Option Addr}{ins:List (List Int)}{tape:List Int}{mem':List Int}{L:List Al.Leak}{t code:Int}(hF:Al.Fine p)(hio:Al.InOk p ins tape)(ht:∀ x∈tape,0<=x/\x<4294967296)(hc:0<=code/\code<=2)(hCI:CI=Al.insts (codeP p))(hM:M=(envP p).mem)(hf:fuel<=2147483648)
  (hr:Al.rrun CI [] M fuel 0 (List.replicate 25 0) (Al.memF p M ins tape) [] 0=⟨code,mem',L,t, -1⟩) (h1:w.ownsRow b1 97 6 (.slice ia CI.length ic) CI.length (instsV CI)) (h2:w.ownsRow b2 56 1 (.slice ma M mc) M (wordsV (Al.memF p M ins tape))):
  Calls Tryz.prog 12 #[.agg #[.slice ia CI.length ic,.int .i64 24,.int .i64 M],.slice none 0 0,.slice ma M mc,.int .i64 fuel] w fun e w'=>∃ xa xn xc la lc,e= .returned (.agg #[.int .i64 code,.slice xa xn xc,.slice la L.length lc,.int .i64 t,.int .i64 (-1)])/\w'.ownsRow w.heap.size 103 2 (.slice la L.length lc) L.length (leaksV L)/\Below w.heap.size w w':=by
 have hE:=Al.env_ok hF
 obtain⟨k1,k2⟩:=Al.codes_ok hF (len:=lenP p) rfl
 have hl:lenP p<=6004:=by
  have h1:=Al.genL_le (envP p) 0 0 p.body 0 (Al.bodyP p.body)
  have h2:=hF.flat
  have h3:Al.bodyP p.body<=4:=by unfold Al.bodyP;split<;> omega
  unfold lenP;omega
 have hcl:CI.length=(codeP p).length:=by rw [hCI,Al.insts_length]
 have HC:RunC w ⟨0,0,0,0,0,M,0,ia,ic,CI⟩ ⟨code,mem',L,t, -1⟩ fuel b1:=by
  refine⟨h1,fun i hi=>?_,?_,?_,?_,hf,rfl,hc⟩
  ·show Al.okI CI.length i
   rw [hcl];exact k1 i (show i∈Al.insts (codeP p) by rw [<-hCI];exact hi)
  ·show CI.length<=_
   rw [hcl]
   have:(codeP p).length<=lenP p+3:=k2
   omega
  ·show 0<M
   rw [hM];show 0<(Al.envOf p (Al.bitsOf p.q)).mem;unfold Al.Env.mem Al.Env.scratch;omega
  ·show M<=65536
   rw [hM];exact hE.mem_le
 refine (run_start HC h2 (Al.memF_words hF hio ht) hr).mono ?_
 rintro e w' ⟨vm,vl,rfl,ho,hl2,hb⟩
 obtain⟨xa,xc,rfl⟩:=own_slice ho
 obtain⟨la,lc,rfl⟩:=own_slice hl2
 exact⟨xa,_,xc,la,lc,rfl,hl2,hb⟩
theorem hides_any {w:World}{p:Al.Prog}{Va Ab Ia Ib Sa Ta:Option Addr}{vc cb ic jc sc tc:Nat}{insA insB:List (List Int)}{sA sB:List Int}(hp:PLies w p Va Ab vc cb)(hA:Kd.C (Kd.slice 3 (Kd.int .i64)) w Ia insA.length insA)(hB:Kd.C (Kd.slice 3 (Kd.int .i64)) w Ib insB.length insB)
  (hS:(Kd.int .u32).C w Sa sA.length sA) (hT:(Kd.int .u32).C w Ta sB.length sB) (hs:∀ t∈sA,0<=t/\t<4294967296) (ht:∀ t∈sB,0<=t/\t<4294967296):
  Calls Tryz.prog 4 #[progV p Va Ab vc cb,.slice Ia insA.length ic,.slice Ib insB.length jc,.slice Sa sA.length sc,.slice Ta sB.length tc] w fun e w'=>e= .returned (.bool true)/\Below w.heap.size w w':=by
 obtain⟨W,hW⟩:∃ W,W=w.alloc (.cells #[.int .i64 p.q,.int .i64 p.n,.slice Va p.vars.length vc,.slice Ab p.body.length cb] 27):=⟨_,rfl⟩
 have hb0:Below w.heap.size w W:=by rw [hW];exact (Below.refl _ _).alloc (Nat.le_refl _) _
 obtain⟨kp,hkp⟩:∃ kp,kp=w.heap.size:=⟨_,rfl⟩
 have P0:PBox W kp p Va Ab vc cb:=by rw [hW,hkp];exact heap_alloc_new w _
 have HLA:=fun (w0:World) (hb:Below w.heap.size w w0)=>light_any (hp.below hb) Ia Sa insA.length ic sA.length sc
 have HLB:=fun (w0:World) (hb:Below w.heap.size w w0)=>light_any (hp.below hb) Ib Ta insB.length jc sB.length tc
 have HF1:=first_any W
 unfold progV at HLA HLB
 obtain⟨lA,hlA⟩:∃ lA,lA=(lightF p && (decide (insA.length<=14) && decide (sA.length<=200))):=⟨_,rfl⟩
 obtain⟨lB,hlB⟩:∃ lB,lB=(lightF p && (decide (insB.length<=14) && decide (sB.length<=200))):=⟨_,rfl⟩
 simp only [<-hlA] at HLA
 simp only [<-hlB] at HLB
 replace hlA:=Lib.hid hlA
 replace hlB:=Lib.hid hlB
 have HP:=Lib.hid hp
 have HAA:=Lib.hid hA
 have HBB:=Lib.hid hB
 have HSS:=Lib.hid (show _/\_ from⟨hS,hs⟩)
 have HTT:=Lib.hid (show _/\_ from⟨hT,ht⟩)
 clear hp hA hB hS hT hs ht
 go_enter Tryz.func4,Tryz.ntmps4
 unfold progV
 go_wp2_with fail
 rw [<-hW]
 simp only [<-hkp]
 replace hkp:=Lib.hid hkp
 clear hW
 go_upto_region 4 with (go_at_call 7;refine HF1.mono ?_;rintro e w1 ⟨rfl,hb1⟩;have P1:PBox w1 kp p Va Ab vc cb:=below_blk hb1 P0 (blk_lt P0);have hb2:=hb0.trans (lower_below hb1 hb0.size))
 clear HF1 P0 hb0 hb1
 obtain⟨p0,p1,p2,p3⟩:=P1.cells
 cases lA with
 |false=>
  go_wp2_with (first|(go_at_call 8;refine (HLA _ hb2).mono ?_;rintro e w2 ⟨rfl,hb3⟩;have hb4:=hb2.trans (lower_below hb3 hb2.size)))
  exact bodyPost_ret (v:= .bool true) (by simp [results,Tryz.results4,go_sem]) rfl ⟨rfl,hb4⟩
 |true=>
 cases lB with
 |false=>
  go_wp2_with (first|(go_at_call 8;refine (HLA _ hb2).mono ?_;rintro e w2 ⟨rfl,hb3⟩;have hb4:=hb2.trans (lower_below hb3 hb2.size);have P2:PBox w2 kp p Va Ab vc cb:=below_blk hb3 P1 (blk_lt P1);obtain⟨q0,q1,q2,q3⟩:=P2.cells;clear HLA)|(go_at_call 8;refine (HLB _ hb4).mono ?_;rintro e w3 ⟨rfl,hb5⟩;have hb6:=hb4.trans (lower_below hb5 hb4.size)))
  exact bodyPost_ret (v:= .bool true) (by simp [results,Tryz.results4,go_sem]) rfl ⟨rfl,hb6⟩
 |true=>
 obtain⟨hn16,hv20,hfl,hwk,hiA,hsA⟩:=light_parts2 (Eq.symm (show true=_ from hlA))
 obtain⟨-, -, -, -,hiB,hsB⟩:=light_parts2 (Eq.symm (show true=_ from hlB))
 clear hlA hlB
 obtain⟨fA,hfA⟩:∃ fA,fA=runF p insA sA 2000:=⟨_,rfl⟩
 obtain⟨fB,hfB⟩:∃ fB,fB=runF p insB sB 2000:=⟨_,rfl⟩
 obtain⟨YA,hYA⟩:∃ YA,YA=Al.exF p insA sA 2000:=⟨_,rfl⟩
 obtain⟨YB,hYB⟩:∃ YB,YB=Al.exF p insB sB 2000:=⟨_,rfl⟩
 have HRA:∀ w0,Below w.heap.size w w0->Calls Tryz.prog 9 #[.agg #[.int .i64 p.q,.int .i64 p.n,.slice Va p.vars.length vc,.slice Ab p.body.length cb],.slice Ia insA.length ic,.slice Sa sA.length sc,.int .i64 2000] w0 (fun e w'=>∃ (c st us:Int) (lo co le ce:Nat) (ao ae:Option Addr),e= .returned (.tuple #[.agg #[.int .i64 c,.slice ao lo co,.slice ae le ce,.int .i64 st,.int .i64 us],.agg #[.int .i64 fA.code,.bool fA.placed,.int .i64 fA.pos]])/\Below w0.heap.size w0 w'/\
   Hid (fA.code=0->(Al.checkF p).code=0/\(Al.inputsF p.q p.n p.vars insA sA (2000:Nat)).code=0/\c=YA.code/\st=YA.steps/\us=YA.used/\le=YA.evs.length/\∃ es,w'.ownsRow w0.heap.size 114 3 (.slice ae le ce) le es/\EvR w' w0.heap.size YA.evs es)):=fun w0 hb=>by
  rw [hfA,hYA]
  refine (run_any (F:=2000) (ic:=ic) (tc:=sc) ((show PLies w p Va Ab vc cb from HP).below hb) (by omega) (by omega) (by omega) (Kd.C_below (show Kd.C (Kd.slice 3 (Kd.int .i64)) w Ia insA.length insA from HAA) hb) (Kd.C_below HSS.out.1 hb) HSS.out.2 (by omega)).mono ?_
  intro e w' h
  obtain⟨c,st,us,lo,co,le,ce,ao,ae,h1,h2,h3⟩:=h.u
  exact⟨c,st,us,lo,co,le,ce,ao,ae,h1,h2,Lib.hid h3⟩
 have HRB:∀ w0,Below w.heap.size w w0->Calls Tryz.prog 9 #[.agg #[.int .i64 p.q,.int .i64 p.n,.slice Va p.vars.length vc,.slice Ab p.body.length cb],.slice Ib insB.length jc,.slice Ta sB.length tc,.int .i64 2000] w0 (fun e w'=>∃ (c st us:Int) (lo co le ce:Nat) (ao ae:Option Addr),e= .returned (.tuple #[.agg #[.int .i64 c,.slice ao lo co,.slice ae le ce,.int .i64 st,.int .i64 us],.agg #[.int .i64 fB.code,.bool fB.placed,.int .i64 fB.pos]])/\Below w0.heap.size w0 w'/\
   Hid (fB.code=0->(Al.checkF p).code=0/\(Al.inputsF p.q p.n p.vars insB sB (2000:Nat)).code=0/\c=YB.code/\st=YB.steps/\us=YB.used/\le=YB.evs.length/\∃ es,w'.ownsRow w0.heap.size 114 3 (.slice ae le ce) le es/\EvR w' w0.heap.size YB.evs es)):=fun w0 hb=>by
  rw [hfB,hYB]
  refine (run_any (F:=2000) (ic:=jc) (tc:=tc) ((show PLies w p Va Ab vc cb from HP).below hb) (by omega) (by omega) (by omega) (Kd.C_below (show Kd.C (Kd.slice 3 (Kd.int .i64)) w Ib insB.length insB from HBB) hb) (Kd.C_below HTT.out.1 hb) HTT.out.2 (by omega)).mono ?_
  intro e w' h
  obtain⟨c,st,us,lo,co,le,ce,ao,ae,h1,h2,h3⟩:=h.u
  exact⟨c,st,us,lo,co,le,ce,ao,ae,h1,h2,Lib.hid h3⟩
 replace hfA:=Lib.hid hfA
 replace hfB:=Lib.hid hfB
 replace hYA:=Lib.hid hYA
 replace hYB:=Lib.hid hYB
 go_upto_region 7 with (first|(go_at_call 8;refine (HLA _ hb2).mono ?_;rintro e w2 ⟨rfl,hb3⟩;have hb4:=hb2.trans (lower_below hb3 hb2.size);have P2:PBox w2 kp p Va Ab vc cb:=below_blk hb3 P1 (blk_lt P1);obtain⟨q0,q1,q2,q3⟩:=P2.cells;clear HLA)|(go_at_call 8;refine (HLB _ hb4).mono ?_;rintro e w3 ⟨rfl,hb5⟩;have hb6:=hb4.trans (lower_below hb5 hb4.size);have P3:PBox w3 kp p Va Ab vc cb:=below_blk hb5 P2 (blk_lt P2);obtain⟨r0,r1,r2,r3⟩:=P3.cells)|(go_at_call 9;refine (HRA _ hb6).mono ?_;rintro e w4 ⟨cA,stA,usA,loA,coA,leA,ceA,aoA,aeA,rfl,hb7,HXA⟩;have hb8:=hb6.trans (lower_below hb7 hb6.size);have P4:PBox w4 kp p Va Ab vc cb:=below_blk hb7 P3 (blk_lt P3)))
 obtain⟨kA,hkA⟩:∃ kA,kA=w4.heap.size:=⟨_,rfl⟩
 refine gen_world (Q:=fun W=>Code.wp _ _ _ _ W) _ (fun W=>PBox W kp p Va Ab vc cb/\W.heap[w4.heap.size]?=some (.cells #[.int .i64 cA,.slice aoA loA coA,.slice aeA leA ceA,.int .i64 stA,.int .i64 usA] 34 (0,0))/\W.heap[w4.heap.size+1]?=some (.cells #[.int .i64 fA.code,.bool fA.placed,.int .i64 fA.pos] 36 (0,0))/\Below w.heap.size w W/\Below w4.heap.size w4 W) ⟨alloc_blk _ (alloc_blk _ P4),alloc_blk _ (heap_alloc_new w4 _),alloc_at _ _ _,(hb8.alloc hb8.size _).alloc (by have:=hb8.size;simp;omega) _,alloc_two _ _ _⟩ ?_
 simp only [<-hkA]
 replace hkA:=Lib.hid hkA
 clear P1 P2 P3 P4 p0 p1 p2 p3 q0 q1 q2 q3 r0 r1 r2 r3 hb2 hb3 hb4 hb5 hb6 hb7 HLB HRA
 rintro W5 ⟨P5,RA,FA,hb9,hb10⟩
 obtain⟨p0,p1,p2,p3⟩:=P5.cells
 go_upto_region 8 with (first|(go_at_call 9;refine (HRB _ hb9).mono ?_;rintro e w6 ⟨cB,stB,usB,loB,coB,leB,ceB,aoB,aeB,rfl,hb11,HXB⟩;have hb12:=hb9.trans (lower_below hb11 hb9.size);have P6:PBox w6 kp p Va Ab vc cb:=below_blk hb11 P5 (blk_lt P5);have RA6:=below_blk hb11 RA (blk_lt RA);have FA6:=below_blk hb11 FA (blk_lt FA)))
 obtain⟨kB,hkB⟩:∃ kB,kB=w6.heap.size:=⟨_,rfl⟩
 refine gen_world (Q:=fun W=>Code.wp _ _ _ _ W) _ (fun W=>PBox W kp p Va Ab vc cb/\W.heap[kA]?=some (.cells #[.int .i64 cA,.slice aoA loA coA,.slice aeA leA ceA,.int .i64 stA,.int .i64 usA] 34 (0,0))/\W.heap[kA+1]?=some (.cells #[.int .i64 fA.code,.bool fA.placed,.int .i64 fA.pos] 36 (0,0))/\
  W.heap[w6.heap.size]?=some (.cells #[.int .i64 cB,.slice aoB loB coB,.slice aeB leB ceB,.int .i64 stB,.int .i64 usB] 34 (0,0))/\W.heap[w6.heap.size+1]?=some (.cells #[.int .i64 fB.code,.bool fB.placed,.int .i64 fB.pos] 36 (0,0))/\Below w.heap.size w W/\Below kA w4 W/\Below w6.heap.size w6 W)
  ⟨alloc_blk _ (alloc_blk _ P6),alloc_blk _ (alloc_blk _ RA6),alloc_blk _ (alloc_blk _ FA6),alloc_blk _ (heap_alloc_new w6 _),alloc_at _ _ _,(hb12.alloc hb12.size _).alloc (by have:=hb12.size;simp;omega) _,(hb10.trans (lower_below hb11 (by have:=hb10.size;have:=hkA.out;omega))).trans (lower_below (alloc_two w6 _ _) (by have:=hb10.size;have:=hb11.size;have:=hkA.out;omega)),alloc_two _ _ _⟩ ?_
 simp only [<-hkB]
 replace hkB:=Lib.hid hkB
 clear P5 P6 RA FA RA6 FA6 hb8 hb9 hb10 hb11 hb12 HRB p0 p1 p2 p3
 rintro W7 ⟨P7,RA,FA,RB,FB,hb13,hb14,hb15⟩
 have a0:W7.cell? ⟨kA+1,0,none⟩=some (.int .i64 fA.code):=(cell_blk FA _).trans rfl
 have b0:W7.cell? ⟨kB+1,0,none⟩=some (.int .i64 fB.code):=(cell_blk FB _).trans rfl
 have a1:W7.cell? ⟨kA,0,none⟩=some (.int .i64 cA):=(cell_blk RA _).trans rfl
 have b1:W7.cell? ⟨kB,0,none⟩=some (.int .i64 cB):=(cell_blk RB _).trans rfl
 have a4:W7.cell? ⟨kA,4,none⟩=some (.int .i64 usA):=(cell_blk RA _).trans rfl
 have b4:W7.cell? ⟨kB,4,none⟩=some (.int .i64 usB):=(cell_blk RB _).trans rfl
 have a2:W7.cell? ⟨kA,2,none⟩=some (.slice aeA leA ceA):=(cell_blk RA _).trans rfl
 have b2:W7.cell? ⟨kB,2,none⟩=some (.slice aeB leB ceB):=(cell_blk RB _).trans rfl
 by_cases g1:fA.code≠0
 ·have e1:(fA.code !=0)=true:=by simp [g1]
  clear g1
  go_wp2_with fail
  exact bodyPost_ret (v:= .bool true) (by simp [results,Tryz.results4,go_sem]) rfl ⟨rfl,hb13⟩
 replace g1:fA.code=0:=by omega
 have zA:((0:Int) !=0)=false:=by decide
 rw [g1] at a0
 by_cases g2:fB.code≠0
 ·have e1:(fB.code !=0)=true:=by simp [g2]
  clear g1 g2
  go_wp2_with fail
  exact bodyPost_ret (v:= .bool true) (by simp [results,Tryz.results4,go_sem]) rfl ⟨rfl,hb13⟩
 replace g2:fB.code=0:=by omega
 rw [g2] at b0
 by_cases g3:cA=4
 ·have e1:(cA == 4)=true:=by simp [g3]
  clear g1 g2 g3
  go_wp2_with fail
  exact bodyPost_ret (v:= .bool true) (by simp [results,Tryz.results4,go_sem]) rfl ⟨rfl,hb13⟩
 have e3:(cA == 4)=false:=by simp [g3]
 by_cases g4:cA≠cB
 ·have e1:(cA !=cB)=true:=by simp [g4]
  clear g1 g2 g3 g4
  go_wp2_with fail
  exact bodyPost_ret (v:= .bool true) (by simp [results,Tryz.results4,go_sem]) rfl ⟨rfl,hb13⟩
 replace g4:cA=cB:=by omega
 have e4:(cA !=cB)=false:=by simp [g4]
 by_cases g5:usA≠usB
 ·have e1:(usA !=usB)=true:=by simp [g5]
  clear g1 g2 g3 g4 g5
  go_wp2_with fail
  exact bodyPost_ret (v:= .bool true) (by simp [results,Tryz.results4,go_sem]) rfl ⟨rfl,hb13⟩
 replace g5:usA=usB:=by omega
 have e5:(usA !=usB)=false:=by simp [g5]
 obtain⟨hc0,hinA,hcA,hstA,husA,hleA,esA,hrA,heA⟩:=HXA.out g1
 obtain⟨-,hinB,hcB,hstB,husB,hleB,esB,hrB,heB⟩:=HXB.out g2
 have ka:=show kA=w4.heap.size from hkA.out
 have kb:=show kB=w6.heap.size from hkB.out
 have toA:∀ {B:Nat} {e:TypeId} {sz n:Nat} {v:Value} {xs:List Value},w4.ownsRow B e sz v n xs->W7.ownsRow B e sz v n xs:=fun h=>own_of h fun k hk=>hb14.block k (by have:=(h.lt k hk).2;omega)
 have toB:∀ {B:Nat} {e:TypeId} {sz n:Nat} {v:Value} {xs:List Value},w6.ownsRow B e sz v n xs->W7.ownsRow B e sz v n xs:=fun h=>own_of h fun k hk=>hb15.block k (by have:=(h.lt k hk).2;omega)
 replace hrA:=toA hrA
 replace hrB:=toB hrB
 replace heA:=EvR.imp (fun _ _ _ h=>toA h) heA
 replace heB:=EvR.imp (fun _ _ _ h=>toB h) heB
 subst hleA hleB
 have hEA:=Al.exF_events p insA sA 2000
 have hTA:=Al.exF_steps p insA sA 2000
 have hTB:=Al.exF_steps p insB sB 2000
 rw [<-show YA=_ from hYA.out] at hEA hTA
 rw [<-show YB=_ from hYB.out] at hTB
 have HSE:=same_events hrA heA hrB heB (by omega) (fun e he=>by have:=hEA.2 e he;omega)
 obtain⟨d,hd⟩:∃ d,d=decide (YA.evs=YB.evs):=⟨_,rfl⟩
 rw [<-hd] at HSE
 cases d with
 |false=>
  clear hd hc0 hinA hcA hstA husA hrA heA hinB hcB hstB husB hrB heB toA toB ka kb g1 g2 g3 g4 g5 hEA hTA hTB
  go_wp2_with (first|(go_at_call 17;refine HSE.mono ?_;rintro e w8 ⟨rfl,hb16⟩;have hb17:=hb13.trans (lower_below hb16 hb13.size)))
  exact bodyPost_ret (v:= .bool true) (by simp [results,Tryz.results4,go_sem]) rfl ⟨rfl,hb17⟩
 |true=>
 have hev:YA.evs=YB.evs:=of_decide_eq_true hd.symm
 have hFi:Al.Fine p:=Al.fine_of_check hc0
 have hIA:Al.InOk p insA sA:=Al.inOk_of hinA
 have hIB:Al.InOk p insB sB:=Al.inOk_of hinB
 obtain⟨sm,hsm⟩:∃ sm,sm=max YA.steps YB.steps:=⟨_,rfl⟩
 have yA:=show YA=_ from hYA.out
 have yB:=show YB=_ from hYB.out
 obtain⟨fuel,L,hfe,hfu,hLl,hcr,⟨mA,tA,hrA2⟩,⟨mB,tB,hrB2⟩⟩:=Al.hides_run hFi hn16 (len:=lenP p) rfl (c:=codeP p) rfl hIA hIB HSS.out.2 HTT.out.2 (st:=sm) (code:=cA) g3 (by rw [hcA,yA]) (by rw [g4,hcB,yB]) (by rw [<-yA,hsm];exact Nat.le_max_left _ _) (by rw [<-yB,hsm];exact Nat.le_max_right _ _) (by rw [hsm];exact Nat.max_le.2 ⟨hTA,hTB⟩) (by rw [<-yA,<-yB];exact hev)
 have hs2000:sm<=2000:=by rw [hsm];exact Nat.max_le.2 ⟨hTA,hTB⟩
 obtain⟨CI,hCI⟩:∃ CI,CI=Al.insts (codeP p):=⟨_,rfl⟩
 obtain⟨M,hM⟩:∃ M,M=(envP p).mem:=⟨_,rfl⟩
 have HL:=fun w0 hb=>lower_fine hFi ((show PLies w p Va Ab vc cb from HP).below (w':=w0) hb)
 rw [<-hM,<-hCI,<-Al.insts_length (codeP p),<-hCI] at HL
 unfold progV at HL
 rw [<-hCI] at hrA2 hrB2
 have HS:=fun w0=>steps_any w0 p.q p.n (sm:Int) ⟨by have:=hFi.n.1;omega,hn16⟩ ⟨by omega,by omega⟩
 simp only [hfe] at HS
 replace hrA2:Hid (Al.rrun CI [] M fuel 0 (List.replicate 25 0) (Al.memF p M insA sA) [] 0=⟨cA,mA,L,tA, -1⟩):=by rw [hM];exact Lib.hid hrA2
 replace hrB2:Hid (Al.rrun CI [] M fuel 0 (List.replicate 25 0) (Al.memF p M insB sB) [] 0=⟨cA,mB,L,tB, -1⟩):=by rw [hM];exact Lib.hid hrB2
 replace hCI:=Lib.hid hCI
 replace hM:=Lib.hid hM
 have HSM:=Lib.hid (show (if stA<stB then stB else stA)=(sm:Int) by rw [hsm,hstA,hstB];split<;> omega)
 have HCD:=Lib.hid (show _/\_ from⟨g4,hcr⟩)
 clear hfe yA yB hd ka kb toA toB hsm hcA hcB hstA hstB husA husB hEA hTA hTB g1 g2 g4 g5 hrA hrB heA heB hinA hinB hev hc0
 obtain⟨p0,p1,p2,p3⟩:=P7.cells
 go_upto_region 11 with (first|(go_at_call 17;refine HSE.mono ?_;rintro e w8 ⟨rfl,hb16⟩;have hb17:=hb13.trans (lower_below hb16 hb13.size);have P8:PBox w8 kp p Va Ab vc cb:=below_blk hb16 P7 (blk_lt P7);obtain⟨q0,q1,q2,q3⟩:=P8.cells)|(go_at_call 10;refine (HL _ hb17).mono ?_;rintro e w9 ⟨vi,vs,rfl,h1,h2,hb18⟩;obtain⟨ia,ic2,rfl⟩:=own_slice h1;obtain⟨sa,sc2,rfl⟩:=own_slice h2;have P9:PBox w9 kp p Va Ab vc cb:=below_blk hb18 P8 (blk_lt P8);have hb19:=hb17.trans (lower_below hb18 hb17.size)))
 have RA9:=below_blk hb18 (below_blk hb16 RA (blk_lt RA)) (blk_lt (below_blk hb16 RA (blk_lt RA)))
 have RB9:=below_blk hb18 (below_blk hb16 RB (blk_lt RB)) (blk_lt (below_blk hb16 RB (blk_lt RB)))
 clear HL HSE P7 P8 p0 p1 p2 p3 q0 q1 q2 q3 a0 a1 a2 a4 b0 b1 b2 b4 RA FA RB FB hb13 hb14 hb15 e3 e4 e5 zA
 refine gen_world (Q:=fun W=>Code.wp _ _ _ _ W) _ (fun W=>PBox W kp p Va Ab vc cb/\W.heap[w9.heap.size]?=some (.cells #[.slice ia CI.length ic2,.int .i64 24,.int .i64 M] 41 (0,0))/\W.ownsRow w8.heap.size 97 6 (.slice ia CI.length ic2) CI.length (instsV CI)/\Below w.heap.size w W/\
  W.heap[kA]?=some (.cells #[.int .i64 cA,.slice aoA loA coA,.slice aeA YA.evs.length ceA,.int .i64 stA,.int .i64 usA] 34 (0,0))/\W.heap[kB]?=some (.cells #[.int .i64 cB,.slice aoB loB coB,.slice aeB YB.evs.length ceB,.int .i64 stB,.int .i64 usB] 34 (0,0)))
  ⟨alloc_blk _ P9,heap_alloc_new w9 _,h1.alloc _,hb19.alloc (Nat.le_trans hb17.size hb18.size) _,alloc_blk _ RA9,alloc_blk _ RB9⟩ ?_
 clear P9 h1 h2 hb16 hb17 hb18 hb19 RA9 RB9
 rintro W10 ⟨P10,C10,O10,hb20,RA,RB⟩
 obtain⟨kc,hkc⟩:∃ kc,kc=w9.heap.size:=⟨_,rfl⟩
 obtain⟨b1,hb1⟩:∃ b1,b1=w8.heap.size:=⟨_,rfl⟩
 rw [<-hkc] at C10
 rw [<-hb1] at O10
 simp only [<-hkc]
 replace hkc:=Lib.hid hkc
 clear hb1
 obtain⟨p0,p1,p2,p3⟩:=P10.cells
 have a3:W10.cell? ⟨kA,3,none⟩=some (.int .i64 stA):=(cell_blk RA _).trans rfl
 have b3:W10.cell? ⟨kB,3,none⟩=some (.int .i64 stB):=(cell_blk RB _).trans rfl
 go_upto_region 13 with fail
 go_upto_region 14 with (first|(go_at_call 14;rw [show (if stA<stB then stB else stA)=(sm:Int) from HSM];refine (HS _).mono ?_;rintro e w11 ⟨rfl,hb21⟩;have P11:PBox w11 kp p Va Ab vc cb:=below_blk hb21 P10 (blk_lt P10);have C11:=below_blk hb21 C10 (blk_lt C10);have O11:=own_of O10 fun k hk=>hb21.block k (O10.lt k hk).2;have hb22:=hb20.trans (lower_below hb21 hb20.size);have RA1:=below_blk hb21 RA (blk_lt RA);have RB1:=below_blk hb21 RB (blk_lt RB)))
 clear P10 C10 O10 hb20 hb21 p0 p1 p2 p3 HS RA RB a3 b3
 have HMA:=fun (w0:World) (hb:Below w11.heap.size w11 w0)=>mem_hides (ic:=ic) (tc:=sc) (Ta:=Sa) (tape:=sA) ((show PLies w p Va Ab vc cb from HP).below (hb22.trans (lower_below hb hb22.size))) hFi hIA (Kd.C_below (show Kd.C (Kd.slice 3 (Kd.int .i64)) w Ia insA.length insA from HAA) (hb22.trans (lower_below hb hb22.size))) (Kd.C_below HSS.out.1 (hb22.trans (lower_below hb hb22.size))) HSS.out.2 (show M=_ from hM)
 have HRA:=fun (w0:World) (b1 b2 mc:Nat) (ma:Option Addr)=>run_hides (w:=w0) (b1:=b1) (b2:=b2) (mc:=mc) (ma:=ma) (ia:=ia) (ic:=ic2) hFi hIA HSS.out.2 HCD.out.2 (show CI=_ from hCI) (show M=_ from hM) hfu (show _=_ from hrA2)
 have HMB:=fun (w0:World) (hb:Below w11.heap.size w11 w0)=>mem_hides (ic:=jc) (tc:=tc) (Ta:=Ta) (tape:=sB) ((show PLies w p Va Ab vc cb from HP).below (hb22.trans (lower_below hb hb22.size))) hFi hIB (Kd.C_below (show Kd.C (Kd.slice 3 (Kd.int .i64)) w Ib insB.length insB from HBB) (hb22.trans (lower_below hb hb22.size))) (Kd.C_below HTT.out.1 (hb22.trans (lower_below hb hb22.size))) HTT.out.2 (show M=_ from hM)
 have HRB:=fun (w0:World) (b1 b2 mc:Nat) (ma:Option Addr)=>run_hides (w:=w0) (b1:=b1) (b2:=b2) (mc:=mc) (ma:=ma) (ia:=ia) (ic:=ic2) hFi hIB HTT.out.2 HCD.out.2 (show CI=_ from hCI) (show M=_ from hM) hfu (show _=_ from hrB2)
 have S10:PS w11 kp kc b1 none p Va Ab vc cb ia ic2 CI M w11:=⟨P11,C11,O11,Below.refl _ _,fun k hk=>by cases hk⟩
 clear P11 C11 O11
 go_cut [20] from 104 to 113 (fun v20 wc=>∃ (kr xn xc lc:Nat) (xa la:Option Addr),v20= .pointer (some ⟨kr,0,none⟩)/\PS w11 kp kc b1 none p Va Ab vc cb ia ic2 CI M wc/\wc.heap[kr]?=some (.cells #[.int .i64 cA,.slice xa xn xc,.slice la L.length lc,.int .i64 tA,.int .i64 (-1)] 51 (0,0))/\wc.ownsRow w11.heap.size 103 2 (.slice la L.length lc) L.length (leaksV L))
 case first=>
  have S1:=S10
  go_region_held3 (fun w'=>w'.cell? ⟨kp,0,none⟩=some (.int .i64 p.q)/\w'.cell? ⟨kp,1,none⟩=some (.int .i64 p.n)/\w'.cell? ⟨kp,2,none⟩=some (.slice Va p.vars.length vc)/\w'.cell? ⟨kp,3,none⟩=some (.slice Ab p.body.length cb)/\w'.cell? ⟨kc,0,none⟩=some (.slice ia CI.length ic2)/\w'.cell? ⟨kc,1,none⟩=some (.int .i64 24)/\w'.cell? ⟨kc,2,none⟩=some (.int .i64 M)) ((first|with_reducible exact S1.cells|with_reducible exact S1.drew.cells|with_reducible exact S1.new _|with_reducible exact S1.alloc.drew.cells|with_reducible exact (S1.set5 _ _ _ _ _).cells)) (first
   |(go_at_call 13;refine (other_any _ _ _ _ _ _).mono ?_;rintro e w11 ⟨rfl,g1⟩;(first|with_reducible replace S1:=S1.drew.below g1|with_reducible replace S1:=S1.alloc.drew.below g1);obtain⟨p0,p1,p2,p3,c0,c1,c2⟩:=S1.cells)
   |(go_at_call 11;(first|with_reducible refine (HMA _ S1.b).mono ?_|with_reducible refine (HMA _ S1.alloc.b).mono ?_);rintro e w12 ⟨ma,mc,rfl,hm,g2⟩;(first|with_reducible replace S1:=S1.below g2|with_reducible replace S1:=S1.alloc.below g2);clear p0 p1 p2 p3 c0 c1 c2;obtain⟨p0,p1,p2,p3,c0,c1,c2⟩:=S1.cells)
   |(go_at_call 12;(first|with_reducible refine (HRA _ _ _ _ _ S1.O hm).mono ?_|with_reducible refine (HRA _ _ _ _ _ S1.alloc.O (hm.alloc _)).mono ?_);rintro e w13 ⟨xa,xn,xc,la,lc,rfl,hl,g3⟩;(first|with_reducible have hl2:=own_base hl S1.b.size|with_reducible have hl2:=own_base hl S1.alloc.b.size);(first|with_reducible replace S1:=S1.below g3|with_reducible replace S1:=S1.alloc.below g3);clear p0 p1 p2 p3 c0 c1 c2;obtain⟨p0,p1,p2,p3,c0,c1,c2⟩:=S1.cells;try (obtain⟨z0,z1,z2,z3,z4,f0,f1,f2,f3,f4⟩:=S1.zero)))
  all_goals go_wp2_with fail
  all_goals go_meet
  ·exact⟨w13.heap.size,xn,xc,lc,xa,la,rfl,S1.newP _,heap_alloc_new w13 _,hl2.alloc _⟩
  all_goals exact⟨_,xn,xc,lc,xa,la,rfl,S1.set5 _ _ _ _ _,set5 (S1.z _ rfl).2 _ _ _ _ _,own_set5 hl2 (S1.z _ rfl).2 (by decide)⟩
 case rest=>
  obtain⟨ka,xn,xc,lcA,xa,laA,rfl,SA,QA,OA⟩:=hcut
  clear S10 HMA HRA
  have SB:PS wc kp kc b1 none p Va Ab vc cb ia ic2 CI M wc:=⟨SA.P,SA.C,SA.O,Below.refl _ _,fun k hk=>by cases hk⟩
  have hbw:=SA.b
  have RA2:=below_blk hbw RA1 (blk_lt RA1)
  have RB2:=below_blk hbw RB1 (blk_lt RB1)
  replace hb22:=hb22.trans (lower_below hbw hb22.size)
  clear SA RA1 RB1
  replace HMB:=fun (w0:World) (hb:Below wc.heap.size wc w0)=>HMB w0 (hbw.trans (lower_below hb hbw.size))
  obtain⟨wA,hwA⟩:∃ wA,wA=wc:=⟨_,rfl⟩
  rw [<-hwA] at SB QA OA hb22 RA2 RB2 ⊢
  simp only [<-hwA] at HMB
  clear hwA hbw wc
  go_upto_region 15 with fail
  go_cut [21] from 114 to 123 (fun v21 wc=>∃ (kr xn xc lc:Nat) (xa la:Option Addr),v21= .pointer (some ⟨kr,0,none⟩)/\PS wA kp kc b1 none p Va Ab vc cb ia ic2 CI M wc/\wc.heap[kr]?=some (.cells #[.int .i64 cA,.slice xa xn xc,.slice la L.length lc,.int .i64 tB,.int .i64 (-1)] 51 (0,0))/\wc.ownsRow wA.heap.size 103 2 (.slice la L.length lc) L.length (leaksV L))
  case first=>
   have S1:=SB
   go_region_held3 (fun w'=>w'.cell? ⟨kp,0,none⟩=some (.int .i64 p.q)/\w'.cell? ⟨kp,1,none⟩=some (.int .i64 p.n)/\w'.cell? ⟨kp,2,none⟩=some (.slice Va p.vars.length vc)/\w'.cell? ⟨kp,3,none⟩=some (.slice Ab p.body.length cb)/\w'.cell? ⟨kc,0,none⟩=some (.slice ia CI.length ic2)/\w'.cell? ⟨kc,1,none⟩=some (.int .i64 24)/\w'.cell? ⟨kc,2,none⟩=some (.int .i64 M)) ((first|with_reducible exact S1.cells|with_reducible exact S1.drew.cells|with_reducible exact S1.new _|with_reducible exact S1.alloc.drew.cells|with_reducible exact (S1.set5 _ _ _ _ _).cells)) (first
    |(go_at_call 13;refine (other_any _ _ _ _ _ _).mono ?_;rintro e w11 ⟨rfl,g1⟩;(first|with_reducible replace S1:=S1.drew.below g1|with_reducible replace S1:=S1.alloc.drew.below g1);obtain⟨p0,p1,p2,p3,c0,c1,c2⟩:=S1.cells)
    |(go_at_call 11;(first|with_reducible refine (HMB _ S1.b).mono ?_|with_reducible refine (HMB _ S1.alloc.b).mono ?_);rintro e w12 ⟨ma,mc,rfl,hm,g2⟩;(first|with_reducible replace S1:=S1.below g2|with_reducible replace S1:=S1.alloc.below g2);clear p0 p1 p2 p3 c0 c1 c2;obtain⟨p0,p1,p2,p3,c0,c1,c2⟩:=S1.cells)
    |(go_at_call 12;(first|with_reducible refine (HRB _ _ _ _ _ S1.O hm).mono ?_|with_reducible refine (HRB _ _ _ _ _ S1.alloc.O (hm.alloc _)).mono ?_);rintro e w13 ⟨xa,xn,xc,la,lc,rfl,hl,g3⟩;(first|with_reducible have hl2:=own_base hl S1.b.size|with_reducible have hl2:=own_base hl S1.alloc.b.size);(first|with_reducible replace S1:=S1.below g3|with_reducible replace S1:=S1.alloc.below g3);clear p0 p1 p2 p3 c0 c1 c2;obtain⟨p0,p1,p2,p3,c0,c1,c2⟩:=S1.cells;try (obtain⟨z0,z1,z2,z3,z4,f0,f1,f2,f3,f4⟩:=S1.zero)))
   all_goals go_wp2_with fail
   all_goals go_meet
   ·exact⟨w13.heap.size,xn,xc,lc,xa,la,rfl,S1.newP _,heap_alloc_new w13 _,hl2.alloc _⟩
   all_goals exact⟨_,xn,xc,lc,xa,la,rfl,S1.set5 _ _ _ _ _,set5 (S1.z _ rfl).2 _ _ _ _ _,own_set5 hl2 (S1.z _ rfl).2 (by decide)⟩
  case rest=>
   obtain⟨kb,yn,yc,lcB,ya,laB,rfl,SC,QB,OB⟩:=hcut
   have QA2:=below_blk SC.b QA (blk_lt QA)
   have OA2:=own_of OA fun k hk=>SC.b.block k (OA.lt k hk).2
   have RA3:=below_blk SC.b RA2 (blk_lt RA2)
   have RB3:=below_blk SC.b RB2 (blk_lt RB2)
   have hbz:=hb22.trans (lower_below SC.b hb22.size)
   clear SB SC HMB HRB QA OA hb22 RA2 RB2
   have HSL:=same_leaks OA2 OB hLl
   have a0:wc.cell? ⟨ka,0,none⟩=some (.int .i64 cA):=(cell_blk QA2 _).trans rfl
   have a2:wc.cell? ⟨ka,2,none⟩=some (.slice laA L.length lcA):=(cell_blk QA2 _).trans rfl
   have b0:wc.cell? ⟨kb,0,none⟩=some (.int .i64 cA):=(cell_blk QB _).trans rfl
   have b2:wc.cell? ⟨kb,2,none⟩=some (.slice laB L.length lcB):=(cell_blk QB _).trans rfl
   have x0:wc.cell? ⟨kA,0,none⟩=some (.int .i64 cA):=(cell_blk RA3 _).trans rfl
   have y0:wc.cell? ⟨kB,0,none⟩=some (.int .i64 cA):=(cell_blk RB3 _).trans (by rw [show cA=cB from HCD.out.1];rfl)
   have zc:(cA == cA)=true:=by simp
   go_wp2_with (first|(go_at_call 18;refine HSL.mono ?_;rintro e w20 ⟨rfl,hb20⟩;have hb21:=hbz.trans (lower_below hb20 hbz.size)))
   exact bodyPost_ret (v:= .bool true) (by simp [results,Tryz.results4,go_sem]) rfl ⟨rfl,hb21⟩
end Go.Proofs.YtkplfaionpplaaaGreatDoor
namespace Go.Proofs.YtkplfaionpplaaaGreatDoor
open Go.RowKit Go.ChangeShapes Go.WideShapes Go.Proofs.YtkplfaionpplaaaGreatDoorW.PrintWords
theorem list_of {α:Type}{Q:Nat->α->Prop}:∀ (n:Nat),(∀ j,j<n->∃ p,Q j p)->∃ ys:List α,ys.length=n/\∀ j p,ys[j]?=some p->Q j p
 |0,_=>⟨[],rfl,fun j p h=>by simp at h⟩
 |n+1,h=>by
  obtain⟨ys,hl,hy⟩:=list_of n fun j hj=>h j (by omega)
  obtain⟨p,hp⟩:=h n (by omega)
  refine⟨ys++[p],by simp [hl],fun j q hq=>?_⟩
  by_cases hj:j<n
  ·rw [List.getElem?_append_left (by omega)] at hq;exact hy j q hq
  ·rw [List.getElem?_append_right (by omega)] at hq
   have h1:=(List.getElem?_eq_some_iff.1 hq).1
   simp at h1
   have h2:j=n:=by omega
   subst h2
   rw [hl] at hq
   simp at hq
   rw [<-hq];exact hp
section
variable {H:Type} {enc:TypeId×Value->H} {w:World}
theorem C_of {α:Type}{d:Kd α}{t e:TypeId}{fuel:Nat}{cs:List Value}{x:DataW H×List MemPlace}(ht:Tryz.prog.underlying t=some (.slice e))(hs:Tryz.prog.cellsOf e=d.sz)
  (ho:∀ (n:Nat) (cs:List Value) (x:DataW H×List MemPlace),n<fuel->DataW.trod enc Tryz.prog w 0 (fun _=>true) true n e cs=some x->∃ y,d.K w y cs)
  (h:DataW.trod enc Tryz.prog w 0 (fun _=>true) true fuel t cs=some x):∃ A c,∃ ys:List α,cs=[.slice A ys.length c]/\ys.length<=c/\d.C w A ys.length ys:=by
 rcases DataW.trod_slice ht h with⟨rfl,_⟩|⟨a,len,cap,elems,rest,n,hn,rfl,_,hb,hl,hm,hlen,hel,_,_⟩
 ·exact⟨none,0,[],rfl,Nat.le_refl _,Kd.C_nil _ _⟩
 ·have hq:∀ j,j<len->∃ p,(∃ c:List Value,c.length=d.sz/\d.K w p c/\∀ i u,c[i]?=some u->w.cell? (a.add (j * d.sz+i))=some u):=fun j hj=>by
   have h1:=hel j hj
   rw [List.getElem?_eq_getElem (by omega)] at h1
   obtain⟨cs',h2,h3⟩:=Option.bind_eq_some_iff.1 h1
   obtain⟨_,h4,h5⟩:=World.cells?_some h2
   obtain⟨y,hy⟩:=ho n cs' _ (by omega) h3
   refine⟨y,cs',by rw [h4,hs],hy,fun i u hu=>?_⟩
   have hi:i<Tryz.prog.cellsOf e:=by have:=(List.getElem?_eq_some_iff.1 hu).1;omega
   have:=h5 i hi
   rw [hs,Go.Deep.add_add] at this
   rw [this,hu]
  obtain⟨ys,hyl,hys⟩:=list_of len hq
  subst hyl
  have hmx:maxLen=9223372036854775807:=by decide
  exact⟨some a,cap,ys,rfl,hl,rfl,by omega,fun _=>⟨a,rfl,hys⟩⟩
theorem int_of {fuel:Nat}{cs:List Value}{x:DataW H×List MemPlace}(h:DataW.trod enc Tryz.prog w 0 (fun _=>true) true fuel 3 cs=some x):∃ y,(Kd.int .i64).K w y cs:=by
 obtain⟨n,rfl,_⟩:=DataW.trod_int Tryz.underlying3 h
 exact⟨n,rfl⟩
theorem ints_of {fuel:Nat}{cs:List Value}{x:DataW H×List MemPlace}(h:DataW.trod enc Tryz.prog w 0 (fun _=>true) true fuel 86 cs=some x):∃ y,(Kd.slice 3 (Kd.int .i64)).K w y cs:=by
 obtain⟨A,c,ys,rfl,hl,hC⟩:=C_of (d:=Kd.int .i64) Tryz.underlying86 (by kernel_rfl) (fun n cs x _ h=>int_of h) h
 exact⟨ys,A,c,rfl,hl,hC⟩
theorem field_of {fs:Array Field}{n:Nat}{cs:List Value}{xs:List (DataW H×List MemPlace)}(hf:∀ (i:Nat) (f:Field),fs[i]?=some f->DataW.trod enc Tryz.prog w 0 (fun _=>true) true n f.type ((cs.drop f.offset).take (Tryz.prog.cellsOf f.type))=xs[i]?)(hx:xs.length=fs.size)(i:Nat){f:Field}(h:fs[i]?=some f):
  ∃ x,DataW.trod enc Tryz.prog w 0 (fun _=>true) true n f.type ((cs.drop f.offset).take (Tryz.prog.cellsOf f.type))=some x:=by
 have hi:i<xs.length:=by have:=(Array.getElem?_eq_some_iff.1 h).1;omega
 exact⟨_,(hf i f h).trans (List.getElem?_eq_getElem hi)⟩
theorem var_of {fuel:Nat}{cs:List Value}{x:DataW H×List MemPlace}(h:DataW.trod enc Tryz.prog w 0 (fun _=>true) true fuel 81 cs=some x):∃ y,kVar.K w y cs:=by
 obtain⟨xs,n,rfl,_,hl,hx,hf⟩:=DataW.trod_struct Tryz.underlying81 h
 rw [show Tryz.prog.cellsOf 81=2 by kernel_rfl] at hl
 match cs,hl with
 |[v0,v1],_=>
 have e3:Tryz.prog.cellsOf 3=1:=by kernel_rfl
 have e4:Tryz.prog.cellsOf 4=1:=by kernel_rfl
 obtain⟨x0,f0⟩:=field_of hf hx 0 rfl
 obtain⟨x1,f1⟩:=field_of hf hx 1 rfl
 obtain⟨k,k0,_⟩:=DataW.trod_int Tryz.underlying3 f0
 obtain⟨b,k1,_⟩:=DataW.trod_bool Tryz.underlying4 f1
 replace k0:List.take (Tryz.prog.cellsOf 3) [v0,v1]=[.int .i64 k]:=k0
 replace k1:List.take (Tryz.prog.cellsOf 4) [v1]=[.bool b]:=k1
 rw [e3] at k0
 rw [e4] at k1
 cases k0
 cases k1
 exact⟨⟨k,b⟩,kVar_mk w ⟨k,b⟩⟩
theorem stmt_of:∀ (N fuel:Nat) (cs:List Value) (x:DataW H×List MemPlace),fuel<=N->DataW.trod enc Tryz.prog w 0 (fun _=>true) true fuel 66 cs=some x->∃ y,kStmt.K w y cs
 |0,fuel,cs,x,hN,h=>by
  obtain⟨xs,n,hn,_⟩:=DataW.trod_struct Tryz.underlying66 h
  omega
 |N+1,fuel,cs,x,hN,h=>by
  obtain⟨xs,n,hn,_,hl,hx,hf⟩:=DataW.trod_struct Tryz.underlying66 h
  rw [show Tryz.prog.cellsOf 66=8 by kernel_rfl] at hl
  match cs,hl with
  |[v0,v1,v2,v3,v4,v5,v6,v7],_=>
  have e3:Tryz.prog.cellsOf 3=1:=by kernel_rfl
  have e5:Tryz.prog.cellsOf 25=1:=by kernel_rfl
  obtain⟨x0,f0⟩:=field_of hf hx 0 rfl
  obtain⟨x1,f1⟩:=field_of hf hx 1 rfl
  obtain⟨x2,f2⟩:=field_of hf hx 2 rfl
  obtain⟨x3,f3⟩:=field_of hf hx 3 rfl
  obtain⟨x4,f4⟩:=field_of hf hx 4 rfl
  obtain⟨x5,f5⟩:=field_of hf hx 5 rfl
  obtain⟨x6,f6⟩:=field_of hf hx 6 rfl
  obtain⟨x7,f7⟩:=field_of hf hx 7 rfl
  obtain⟨a0,k0,_⟩:=DataW.trod_int Tryz.underlying3 f0
  obtain⟨a1,k1,_⟩:=DataW.trod_int Tryz.underlying3 f1
  obtain⟨a2,k2,_⟩:=DataW.trod_int Tryz.underlying3 f2
  obtain⟨a3,k3,_⟩:=DataW.trod_int Tryz.underlying3 f3
  obtain⟨a4,k4,_⟩:=DataW.trod_int Tryz.underlying3 f4
  obtain⟨a5,k5,_⟩:=DataW.trod_int (k:= .i64) (by kernel_rfl) f5
  obtain⟨A6,c6,l6,k6,g6,h6⟩:=C_of (d:=kStmt) Tryz.underlying25 (by kernel_rfl) (fun m cs' x' hm h'=>stmt_of N m cs' x' (by omega) h') f6
  obtain⟨A7,c7,l7,k7,g7,h7⟩:=C_of (d:=kStmt) Tryz.underlying25 (by kernel_rfl) (fun m cs' x' hm h'=>stmt_of N m cs' x' (by omega) h') f7
  replace k0:List.take (Tryz.prog.cellsOf 3) [v0,v1,v2,v3,v4,v5,v6,v7]=[.int .i64 a0]:=k0
  replace k1:List.take (Tryz.prog.cellsOf 3) [v1,v2,v3,v4,v5,v6,v7]=[.int .i64 a1]:=k1
  replace k2:List.take (Tryz.prog.cellsOf 3) [v2,v3,v4,v5,v6,v7]=[.int .i64 a2]:=k2
  replace k3:List.take (Tryz.prog.cellsOf 3) [v3,v4,v5,v6,v7]=[.int .i64 a3]:=k3
  replace k4:List.take (Tryz.prog.cellsOf 3) [v4,v5,v6,v7]=[.int .i64 a4]:=k4
  replace k6:List.take (Tryz.prog.cellsOf 25) [v6,v7]=[.slice A6 l6.length c6]:=k6
  replace k7:List.take (Tryz.prog.cellsOf 25) [v7]=[.slice A7 l7.length c7]:=k7
  replace k5:List.take (Tryz.prog.cellsOf 2) [v5,v6,v7]=[.int .i64 a5]:=k5
  rw [e3] at k0 k1 k2 k3 k4
  rw [show Tryz.prog.cellsOf 2=1 by kernel_rfl] at k5
  rw [e5] at k6 k7
  cases k0
  cases k1
  cases k2
  cases k3
  cases k4
  cases k5
  cases k6
  cases k7
  exact⟨⟨a0,a1,a2,a3,a4,a5,l6,l7⟩,kStmt_mk w ⟨a0,a1,a2,a3,a4,a5,l6,l7⟩ g6 h6 g7 h7⟩
theorem prog_of {fuel:Nat}{cs:List Value}{x:DataW H×List MemPlace}(h:DataW.trod enc Tryz.prog w 0 (fun _=>true) true fuel 27 cs=some x):
  ∃ (p:Al.Prog) (Va Ab:Option Addr) (vc cb:Nat),cs=[.int .i64 p.q,.int .i64 p.n,.slice Va p.vars.length vc,.slice Ab p.body.length cb]/\PLies w p Va Ab vc cb:=by
 obtain⟨xs,n,hn,_,hl,hx,hf⟩:=DataW.trod_struct Tryz.underlying27 h
 rw [show Tryz.prog.cellsOf 27=4 by kernel_rfl] at hl
 match cs,hl with
 |[v0,v1,v2,v3],_=>
 obtain⟨x0,f0⟩:=field_of hf hx 0 rfl
 obtain⟨x1,f1⟩:=field_of hf hx 1 rfl
 obtain⟨x2,f2⟩:=field_of hf hx 2 rfl
 obtain⟨ys,m,hm,_,hl2,hx2,hf2⟩:=DataW.trod_struct Tryz.underlying23 f0
 obtain⟨y0,g0⟩:=field_of hf2 hx2 0 rfl
 obtain⟨y1,g1⟩:=field_of hf2 hx2 1 rfl
 obtain⟨q,k0,_⟩:=DataW.trod_int (k:= .i64) (by kernel_rfl) g0
 obtain⟨nn,k1,_⟩:=DataW.trod_int (k:= .i64) (by kernel_rfl) g1
 obtain⟨A2,c2,l2,k2,i2,h2⟩:=C_of (d:=kVar) Tryz.underlying24 (by kernel_rfl) (fun m cs' x' _ h'=>var_of h') f1
 obtain⟨A3,c3,l3,k3,i3,h3⟩:=C_of (d:=kStmt) Tryz.underlying25 (by kernel_rfl) (fun m cs' x' _ h'=>stmt_of m m cs' x' (Nat.le_refl _) h') f2
 have e3:Tryz.prog.cellsOf 3=1:=by kernel_rfl
 have e23:Tryz.prog.cellsOf 23=2:=by kernel_rfl
 replace k0:List.take (Tryz.prog.cellsOf 3) (List.take (Tryz.prog.cellsOf 23) [v0,v1,v2,v3])=[.int .i64 q]:=k0
 replace k1:List.take (Tryz.prog.cellsOf 3) (List.drop 1 (List.take (Tryz.prog.cellsOf 23) [v0,v1,v2,v3]))=[.int .i64 nn]:=k1
 replace k2:List.take (Tryz.prog.cellsOf 24) [v2,v3]=[.slice A2 l2.length c2]:=k2
 replace k3:List.take (Tryz.prog.cellsOf 25) [v3]=[.slice A3 l3.length c3]:=k3
 rw [e3,e23] at k0 k1
 rw [show Tryz.prog.cellsOf 24=1 by kernel_rfl] at k2
 rw [show Tryz.prog.cellsOf 25=1 by kernel_rfl] at k3
 cases k0
 cases k1
 cases k2
 cases k3
 exact⟨⟨q,nn,l2,l3⟩,A2,A3,c2,c3,rfl,⟨h2,h3,i3⟩⟩
theorem vecs_of {fuel:Nat}{cs:List Value}{x:DataW H×List MemPlace}(h:DataW.trod enc Tryz.prog w 0 (fun _=>true) true fuel 28 cs=some x):
  ∃ A c,∃ ys:List (List Int),cs=[.slice A ys.length c]/\ys.length<=c/\Kd.C (Kd.slice 3 (Kd.int .i64)) w A ys.length ys:=
 C_of (d:=Kd.slice 3 (Kd.int .i64)) Tryz.underlying28 (by kernel_rfl) (fun m cs' x' _ h'=>ints_of h') h
end
end Go.Proofs.YtkplfaionpplaaaGreatDoor
