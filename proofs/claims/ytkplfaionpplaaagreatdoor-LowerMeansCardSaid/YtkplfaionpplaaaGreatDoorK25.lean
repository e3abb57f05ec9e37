/- Part 25: P35, B77, B78, P36, B79, P37. -/
import Derived.Test.YtkplfaionpplaaaGreatDoorK24
set_option maxRecDepth 100000
set_option maxHeartbeats 6400000
set_option linter.unusedVariables false
set_option linter.unusedSimpArgs false
namespace Go.Proofs.YtkplfaionpplaaaGreatDoor.Al
def exF (p:Prog)(ins:List (List Int))(tape:List Int)(fuel:Nat):RS:=exL (envOf p (bitsOf p.q)) fuel p.body ⟨tape,Vof (V0 p ins),0,0,[],false,0⟩
theorem runs_law {p:Prog}(hF:Fine p){c:List CI}{len:Nat}(hlen:len=bodyP p.body+(genL (envOf p (bitsOf p.q)) 0 0 0 (bodyP p.body) p.body).length)
  (hc:c=progC (envOf p (bitsOf p.q)) p.body (outT len) (outG len p.body)) (F:Nat):
  ∃ C:List Ev->Int->List Leak,∀ ins tape,InOk p ins tape->(∀ x∈tape,0<=x/\x<4294967296)->(exF p ins tape F).code≠4->∀ sp,(sp=[]\/sp=spansOf c)->∀ fuel:Nat,((exF p ins tape F).steps+1) * Wd (envOf p (bitsOf p.q))<=fuel->
   ∃ mem' t,rrun (insts c) sp (envOf p (bitsOf p.q)).mem fuel 0 (List.replicate 25 0) (memF p (envOf p (bitsOf p.q)).mem ins tape) [] 0=⟨(exF p ins tape F).code,mem',C (exF p ins tape F).evs (exF p ins tape F).code,t, -1⟩/\
    mem'.length=(envOf p (bitsOf p.q)).mem/\mem'.getD 1 0=(exF p ins tape F).used/\(0<=(exF p ins tape F).code/\(exF p ins tape F).code<=2/\((exF p ins tape F).over=true->(exF p ins tape F).code≠0))/\((exF p ins tape F).over=false->(exF p ins tape F).code=0/\
     ∀ v k,v<p.vars.length->k<p.n.toNat->mem'.getD ((envOf p (bitsOf p.q)).place v+k) 0=(exF p ins tape F).V v k/\0<=(exF p ins tape F).V v k/\(exF p ins tape F).V v k<p.q):=by
 have hE:=env_ok hF
 have hg:=good_prog hF (bitsOf p.q)
 have hmem:=endF_eq (bits:=bitsOf p.q) hF
 have hq:=hF.q
 unfold exF
 have en:(envOf p (bitsOf p.q)).n=p.n.toNat:=rfl
 have ev0:(envOf p (bitsOf p.q)).nv=p.vars.length:=rfl
 have eq:(envOf p (bitsOf p.q)).q=p.q.toNat:=rfl
 generalize hEE:envOf p (bitsOf p.q)=E at *
 have hlen2:len=bodyP p.body+(genL E (outT len) (outG len p.body) 0 (bodyP p.body) p.body).length:=by rw [hlen];congr 1;exact len_list E _ _ _ _ _ _ _
 obtain⟨C,hC⟩:=prog_ok (fuel:=F) hE hg hc hlen2 rfl rfl
 have hok:=(codes_ok hF (len:=len) (by rw [hEE];exact hlen)).1
 rw [hEE,<-hc] at hok
 have hM:E.mem<=65536:=hE.mem_le
 have hme:endF p+4096<=(E.mem:Int):=by rw [hmem];unfold Env.mem Env.scratch;omega
 refine⟨fun ev code=>C ev++[⟨1,(haltAt len p.body code:Nat)⟩],fun ins tape hi ht hne sp hsp fuel hfu=>?_⟩
 obtain⟨m1,m2,m3⟩:=mem_ok hF hi ht (bitsOf p.q) hme
 rw [hEE] at m2
 obtain⟨ev,hgo,hrun⟩:=hC ⟨tape,Vof (V0 p ins),0,0,[],false,0⟩ rfl rfl rfl hne
 generalize hy:exL E F p.body ⟨tape,Vof (V0 p ins),0,0,[],false,0⟩=y at *
 have hev:y.evs=ev:=by rw [hgo.evs];rfl
 obtain⟨n,s,hs,hn,hpc,⟨x,hh⟩,hu,hend⟩:=hrun (fun _=>0) (fun j=>(memF p E.mem ins tape).getD j 0) (fun _=>rfl) m2
 simp only [Nat.sub_zero] at hn
 obtain⟨mem',hm',hr⟩:=run_halts hs hM (n:=25) (fun q i x h=>(hok i (by unfold insts;exact List.mem_map.2 ⟨_,List.mem_of_getElem? h,rfl⟩)).regs) hsp (regs:=List.replicate 25 0) (mem:=memF p E.mem ins tape) ⟨by simp,fun j hj=>by rw [List.getD_eq_getElem?_getD,List.getElem?_replicate,if_pos hj];rfl⟩ ⟨by rw [m1];simp,fun _ _=>rfl⟩ hh (fuel:=fuel) (by omega)
 have hM1:1<E.mem:=by unfold Env.mem Env.scratch;omega
 refine⟨mem',n+1,?_,hm'.1,by rw [hm'.2 1 hM1];exact hu,?_,fun ho=>?_⟩
 ·dsimp only;rw [hev,<-hpc];exact hr
 ·by_cases ho:y.over=true
  ·rcases hgo.over ho with h|h<;> rw [h]<;> simp
  ·have:=(hend (by simpa using ho)).1
   rw [this];simp [ho]
 ·obtain⟨h1,h2⟩:=hend ho
  refine⟨h1,fun v k hv hk=>?_⟩
  have hv2:v<E.nv:=by rw [ev0];exact hv
  have hk2:k<E.n:=by rw [en];exact hk
  have hp:=Env.place_lt hv2 hk2
  have hr:=h2.vr v k hv2 hk2
  refine⟨?_,hr.1,by have:=hr.2;omega⟩
  rw [hm'.2 _ (by unfold Env.mem Env.scratch;omega)]
  exact h2.mv v k hv2 hk2
end Go.Proofs.YtkplfaionpplaaaGreatDoor.Al
namespace Go.Proofs.YtkplfaionpplaaaGreatDoor
open Go.RowKit Go.Proofs.YtkplfaionpplaaaGreatDoorW.PrintLast
theorem pow_small {q:Int}{K:Nat}(h:(2:Int) ^ K<q)(hq:q<=8380417):K<=22:=by
 refine Decidable.byContradiction fun hn=>?_
 have h2:(2:Nat) ^ 23<=2 ^ K:=Nat.pow_le_pow_right (by decide) (by omega)
 have h4:((2:Int) ^ K)=((2 ^ K:Nat):Int):=by simp
 have h5:(2:Nat) ^ 23=8388608:=by decide
 omega
theorem nat_var {E:Al.Env}{v:Int}(h:Al.isVar E v):∃ j:Nat,v=j/\j<E.nv:=⟨v.toNat,by have:=h.1;omega,by have:=h.1;have:=h.2;omega⟩
theorem ref_step {w:World}{E:Al.Env}(hE:E.Ok)(hq:E.q<=8380417){op d a b c k:Int}(g:Al.GoodV E ⟨op,d,a,b,c,k,[],[]⟩)(h12:op<=12){V:Al.Vs}{ad:Addr}(cap:Nat)(R:Rows w ad E.nv E.n E.q V)(x6 x7:Value):
  Calls Tryz.prog 69 #[.agg #[.int .i64 E.q,.int .i64 E.n],.agg #[.int .i64 op,.int .i64 d,.int .i64 a,.int .i64 b,.int .i64 c,.int .i64 k,x6,x7],.slice (some ad) E.nv cap] w fun e w'=>∃ v,e= .returned v/\w'.ownsRow w.heap.size 3 1 v E.n (vecV E.n (Al.stepF E ⟨op,d,a,b,c,k,[],[]⟩ V))/\Below w.heap.size w w':=by
 have q0:=hE.q0
 have hq2:17<=(E.q:Int)/\(E.q:Int)<=8380417:=by omega
 have hn:4<=E.n/\E.n<=256:=⟨hE.n0,hE.n1⟩
 have hv:=hE.v1
 have g1:=g.op
 dsimp only at g1
 have hc:op=1\/op=2\/op=3\/op=4\/op=5\/op=6\/op=7\/op=8\/op=9\/op=10\/op=11\/op=12:=by omega
 rcases hc with rfl|rfl|rfl|rfl|rfl|rfl|rfl|rfl|rfl|rfl|rfl|rfl
 ·exact step_zero cap R hq2 hn hv d x6 x7 a b c k
 all_goals obtain⟨ja,rfl,hja⟩:=nat_var (g.a (by simp) (by simp))
 ·exact step_copy cap R hq2 hn hv d x6 x7 hja b c k
 ·obtain⟨jb,rfl,hjb⟩:=nat_var (g.b (by simp))
  exact step_add cap R hq2 hn hv d x6 x7 hja hjb c k
 ·obtain⟨jb,rfl,hjb⟩:=nat_var (g.b (by simp))
  exact step_sub cap R hq2 hn hv d x6 x7 hja hjb c k
 ·obtain⟨jb,rfl,hjb⟩:=nat_var (g.b (by simp))
  exact step_mul cap R hq2 hn hv d x6 x7 hja hjb c k
 ·exact step_scale cap R hq2 hn hv d x6 x7 hja b c (g.k6 rfl)
 ·obtain⟨jb,rfl,hjb⟩:=nat_var (g.b (by simp))
  exact step_conv cap R hq2 hn hv d x6 x7 hja hjb c k
 ·obtain⟨h1,h2,h3⟩:=g.k8 (by simp)
  dsimp only at h1 h2 h3
  obtain⟨K,rfl⟩:=Int.eq_ofNat_of_zero_le (show 0<=k by omega)
  have hK:=pow_small (K:=K) h3 (by omega)
  exact step_down cap R hq2 hn hv d x6 x7 hja b c ⟨by omega,hK⟩
 ·obtain⟨h1,h2,h3⟩:=g.k8 (by simp)
  dsimp only at h1 h2 h3
  obtain⟨K,rfl⟩:=Int.eq_ofNat_of_zero_le (show 0<=k by omega)
  have hK:=pow_small (K:=K) h3 (by omega)
  exact step_expand cap R hq2 hn hv d x6 x7 hja b c ⟨by omega,hK⟩
 ·obtain⟨jb,rfl,hjb⟩:=nat_var (g.b (by simp))
  obtain⟨jc,rfl,hjc⟩:=nat_var (g.c (by simp))
  exact step_pick cap R hq2 hn hv d x6 x7 hja hjb hjc k
 ·exact step_norm cap R hq2 hn hv d x6 x7 hja b c (g.k11 rfl)
 ·exact step_show cap R hq2 hn hv d x6 x7 hja b c k
structure Lim (C:XC)(x:Al.RS):Prop where
 s:x.steps<=C.fuel
 e:x.evs.length<=x.steps
 u:x.used<=C.tape.length
 r:∀ i,i<C.nv->∀ j,j<C.n->0<=x.V i j/\x.V i j<C.q
structure XL (w0 w:World)(C:XC)(x:Al.RS)(N:Nat):Prop where
 h:XS w0 w C x N
 l:Lim C x
theorem XL.below {w0 w w':World}{C:XC}{x:Al.RS}{N:Nat}(h:XL w0 w C x N)(hb:Below w.heap.size w w'):XL w0 w' C x N:=⟨h.h.below hb,h.l⟩
theorem XL.alloc {w0 w:World}{C:XC}{x:Al.RS}{N:Nat}(h:XL w0 w C x N)(o:Obj):XL w0 (w.alloc o) C x N:=⟨h.h.alloc o,h.l⟩
theorem XL.drewN {w0 w:World}{C:XC}{x:Al.RS}{N:Nat}(h:XL w0 w C x N)(m:Nat):XL w0 (w.drewN m) C x N:=⟨h.h.drewN m,h.l⟩
theorem XL.now {w0 w:World}{C:XC}{x:Al.RS}{N:Nat}(h:XL w0 w C x N):XL w0 w C x w.heap.size:=⟨h.h.now,h.l⟩
theorem Lim.fin {C:XC}{x:Al.RS}(h:Lim C x)(c:Int):Lim C (x.fin c):=⟨h.s,h.e,h.u,h.r⟩
theorem XL.rows {w0 w:World}{C:XC}{x:Al.RS}{N:Nat}(h:XL w0 w C x N)(hn:0<C.n)(hv:0<C.nv):∃ ad cap,w.cell? ⟨C.kx,4,none⟩=some (.slice (some ad) C.nv cap)/\Rows w ad C.nv C.n C.q x.V:=by
 obtain⟨⟨vv,ve,cs,es,h, -⟩,hl⟩:=h
 obtain⟨g,c,hvv, -, -⟩:=h.vo.form (by omega)
 subst hvv
 refine⟨_,_,h.c 4,⟨fun i hi=>?_,hl.r⟩⟩
 obtain⟨v,h1,h2⟩:=h.vr i hi
 obtain⟨A,cap,rfl,ad,hA,h3⟩:=own_vec hn h2
 subst hA
 refine⟨ad,cap,?_,h3⟩
 have e:(⟨g,0,none⟩:Addr).add i=⟨g,i,none⟩:=by unfold Addr.add;split<;> simp_all
 rw [e,h.vo.cellAt _ (by omega),h1]
theorem XL.cells {w0 w:World}{C:XC}{x:Al.RS}{N:Nat}(h:XL w0 w C x N):w.cell? ⟨C.kx,0,none⟩=some (.int .i64 C.q)/\w.cell? ⟨C.kx,1,none⟩=some (.int .i64 C.n)/\w.cell? ⟨C.kx,5,none⟩=some (.slice C.Ta C.tape.length C.tc)/\w.cell? ⟨C.kx,11,none⟩=some (.int .i64 x.used)/\w.cell? ⟨C.kx,12,none⟩=some (.bool x.over)/\w.frozen? ⟨C.kx,11,none⟩=false:=by
 obtain⟨⟨vv,ve,cs,es,h, -⟩, -⟩:=h
 exact⟨h.c 0,h.c 1,h.c 5,h.c 11,h.c 12,h.fz 11⟩
theorem lim_step {w0 w:World}{C:XC}{x:Al.RS}{N:Nat}(h:XL w0 w C x N)(hs:C.fuel<=2147483648):Calls Tryz.prog 66 #[.pointer (some ⟨C.kx,0,none⟩)] w fun e w'=>e= .returned (.bool (decide (x.steps<C.fuel)))/\KK w w'/\Below w0.heap.size w0 w'/\(x.steps<C.fuel->XL w0 w' C { x with steps:=x.steps+1} N/\x.evs.length<x.steps+1)/\(¬x.steps<C.fuel->XL w0 w' C (x.fin 4) N):=by
 refine (run_step h.h (by have:=h.l.s;omega)).mono ?_
 rintro e w1 ⟨rfl,h1,h2⟩
 have hl:=h.l
 refine⟨rfl,h2,h1.b,fun hf=>?_,fun hf=>?_⟩
 ·rw [if_neg (by omega)] at h1
  exact⟨⟨h1,by simp only;omega,by simp only;have:=hl.e;omega,hl.u,hl.r⟩,by have:=hl.e;omega⟩
 ·rw [if_pos (by omega)] at h1
  exact⟨h1,hl.fin 4⟩
theorem lim_event {w0 w:World}{C:XC}{x:Al.RS}{N:Nat}(h:XL w0 w C x N)(hs:C.fuel<=100000000)(hx:x.evs.length<x.steps)(e:Al.Ev){v:Value}(hv:w.ownsRow w0.heap.size 3 1 v e.vec.length (intsV e.vec))(hvN:∀ k,v.ownBlock=some k->k<N):Calls Tryz.prog 68 #[.pointer (some ⟨C.kx,0,none⟩),.agg #[.int .i64 e.kind,.bool e.yes,v]] w fun r w'=>r= .returned (.tuple #[])/\XL w0 w' C { x with evs:=x.evs++[e]} N/\KK w w':=by
 have hl:=h.l
 refine (run_event h.h e hv hvN (by have:=hl.s;omega)).mono ?_
 rintro r w1 ⟨rfl,h1,h2⟩
 exact⟨rfl,⟨h1,hl.s,by simp;omega,hl.u,hl.r⟩,h2⟩
theorem lim_end {w0 w:World}{C:XC}{x:Al.RS}{N:Nat}(h:XL w0 w C x N)(c:Int):Calls Tryz.prog 94 #[.pointer (some ⟨C.kx,0,none⟩),.int .i64 c] w fun r w'=>r= .returned (.tuple #[])/\XL w0 w' C (x.fin c) N/\KK w w':=by
 refine (run_end h.h c).mono ?_
 rintro r w1 ⟨rfl,h1,h2⟩
 exact⟨rfl,⟨h1,h.l.fin c⟩,h2⟩
end Go.Proofs.YtkplfaionpplaaaGreatDoor
namespace Go.Proofs.YtkplfaionpplaaaGreatDoor
open Go.RowKit Go.Proofs.YtkplfaionpplaaaGreatDoorW.PrintWords
theorem and32 (t k:Nat)(ht:t<4294967296)(hk:k<=31):bits BinOp.and IntKind.u32 (t:Int) (2 ^ k - 1)=(t:Int) % 2 ^ k:=by
 have h1:(1:Nat)<=2 ^ k:=Nat.one_le_two_pow
 have h0:(2:Nat) ^ k<=2 ^ 31:=Nat.pow_le_pow_right (by decide) hk
 have e:((2:Int) ^ k - 1)=((2 ^ k - 1:Nat):Int):=by rw [Int.natCast_sub h1];simp
 rw [e]
 have h2:(BitVec.ofInt 32 (t:Int)).toNat=t:=by
  rw [BitVec.ofInt_natCast,BitVec.toNat_ofNat];exact Nat.mod_eq_of_lt (by omega)
 have h3:(BitVec.ofInt 32 ((2 ^ k - 1:Nat):Int)).toNat=2 ^ k - 1:=by
  rw [BitVec.ofInt_natCast,BitVec.toNat_ofNat];exact Nat.mod_eq_of_lt (by omega)
 show IntKind.u32.wrap ((BitVec.ofInt 32 (t:Int) &&& BitVec.ofInt 32 ((2 ^ k - 1:Nat):Int)).toNat:Int)=_
 rw [BitVec.toNat_and,h2,h3,Nat.and_two_pow_sub_one_eq_mod]
 have h4:t % 2 ^ k<2 ^ k:=Nat.mod_lt _ (by omega)
 rw [show ((t:Int) % 2 ^ k)=((t % 2 ^ k:Nat):Int) by simp]
 exact IntWalk.u32_in _ (by omega)
theorem vecV_upd {n i:Nat}{f:Nat->Int}{x:Int}:(vecV n f).set i (.int .i64 x)=vecV n (Al.upd f i x):=by
 apply List.ext_getElem
 ·simp [vecV,vecN,intsV]
 ·intro j h1 h2
  simp [vecV,vecN,intsV,Al.upd,List.getElem_set]
  by_cases e:i=j
  ·subst e;simp
  ·rw [if_neg e,if_neg (Ne.symm e)]
theorem XL.used {w0 w:World}{C:XC}{x:Al.RS}{N:Nat}(h:XL w0 w C x N)(hu:x.used<C.tape.length):XL w0 (w.setCell ⟨C.kx,11,none⟩ (.int .i64 ((x.used:Int)+1))) C { x with used:=x.used+1} N/\KK w (w.setCell ⟨C.kx,11,none⟩ (.int .i64 ((x.used:Int)+1))):=by
 obtain⟨⟨vv,ve,cs,es,h,hn⟩,hl⟩:=h
 exact⟨⟨⟨_,_,_,_,h.used,hn⟩,hl.s,hl.e,hu,hl.r⟩,h.kk 11 _⟩
theorem XL.vec {w0 w:World}{C:XC}{x:Al.RS}{N:Nat}(h:XL w0 w C x N){d:Nat}(hd:d<C.nv){v:Value}{f:Nat->Int}(hv:w.ownsRow w0.heap.size 3 1 v C.n (vecV C.n f))(hr:∀ j,j<C.n->0<=f j/\f j<C.q):∃ g vcap,w.cell? ⟨C.kx,4,none⟩=some (.slice (some ⟨g,0,none⟩) C.nv vcap)/\(∃ u,w.cell? ⟨g,d,none⟩=some u)/\w.frozen? ⟨g,d,none⟩=false/\g≠C.kx/\
  XL w0 (w.setCell ⟨g,d,none⟩ v) C { x with V:=Al.setV x.V d f} w.heap.size/\KK w (w.setCell ⟨g,d,none⟩ v):=by
 obtain⟨⟨vv,ve,cs,es,h, -⟩,hl⟩:=h
 obtain⟨g,vcap,hvv,hu,hf,hne,hgb,hX⟩:=h.vec hd hv
 have c4:=h.c 4
 rw [hvv] at c4
 have hb:=hX.bnd
 rw [set_size] at hb
 refine⟨g,vcap,c4,hu,hf,hne,⟨⟨_,_,_,_,hX,hb⟩,hl.s,hl.e,hl.u,fun i hi j hj=>?_⟩,fun t h1 h2 h3=>?_⟩
 ·simp only [Al.setV]
  split
  ·exact hr j hj
  ·exact hl.r i hi j hj
 ·have ho:=h.vo
  rw [hvv] at ho
  obtain⟨c,hc⟩:=own_type ho rfl
  exact Keeps.set hc h2 d v
structure DW (w0 w wr:World)(C:XC)(g0:Nat)(f:Nat->Int)(z:Al.RS):Prop where
 x:XL w0 wr C z g0
 g:w0.heap.size<=g0
 o:wr.ownsRow w.heap.size 3 1 (.slice (some ⟨g0,0,none⟩) C.n C.n) C.n (vecV C.n f)
 k:KK w wr
 r:∀ j,j<C.n->0<=f j/\f j<C.q
theorem KK.own {w w':World}(h:KK w w'){B:Nat}{v:Value}{n:Nat}{xs:List Value}(ho:w.ownsRow B 3 1 v n xs):w'.ownsRow B 3 1 v n xs:=own_keeps ho (h _ (by decide) (by decide) (by decide))
theorem tape_at {w:World}{A:Option Addr}{T:List Int}(h:(Kd.int .u32).C w A T.length T){j:Nat}(hj:j<T.length):∃ ad,A=some ad/\w.cell? (ad.add j)=some (.int .u32 T[j]):=intsC_get h hj hj
theorem KK.far {w w6:World}(h:KK w w6){g j:Nat}(hg:w.heap.size<=g)(u:Value):KK w (w6.setCell ⟨g,j,none⟩ u):=fun t h1 h2 h3 k c hc=>by
 rw [set_blk_ne _ _ (by have:=blk_lt hc;omega)]
 exact h t h1 h2 h3 k c hc
theorem DW.put {w0 w w6:World}{C:XC}{g0:Nat}{f:Nat->Int}{z:Al.RS}(hr:∀ j,j<C.n->0<=f j/\f j<C.q)(hX:XL w0 w6 C z g0)(ho:w6.ownsRow w.heap.size 3 1 (.slice (some ⟨g0,0,none⟩) C.n C.n) C.n (vecV C.n f))(hk:KK w w6)(hg:g0=w.heap.size)(h0:w0.heap.size<=g0)(i:Nat){m:Int}(hm:0<=m/\m<C.q):
  DW w0 w (w6.setCell ⟨g0,i,none⟩ (.int .i64 m)) C g0 (Al.upd f i m) z:=by
 obtain⟨c,hc⟩:=own_type ho rfl
 refine⟨⟨hX.h.far hc (Nat.le_refl _) h0 i _,hX.l⟩,h0,?_,hk.far (by omega) _,fun j hj=>?_⟩
 ·rw [<-vecV_upd];exact (ho.stored i (.int .i64 m)).1
 ·unfold Al.upd;split
  ·exact hm
  ·exact hr j hj
set_option maxHeartbeats 12800000 in
theorem run_draw {w0 w:World}{C:XC}{x:Al.RS}{E:Al.Env}(hE:E.Ok)(hE2:E.q<=8380417)(eq:C.q=E.q)(en:C.n=E.n)(hbits:((wid 23 (E.q - 1):Nat):Int)=E.bits)(hfuel:C.fuel<=100000000)(hT:(Kd.int .u32).C w0 C.Ta C.tape.length C.tape)(ht:∀ t∈C.tape,0<=t/\t<4294967296)(htl:C.tape.length<=4096)
  {N:Nat} (h:XL w0 w C x N) {d:Nat} (hd:d<C.nv):
  Calls Tryz.prog 67 #[.pointer (some ⟨C.kx,0,none⟩),.int .i64 d] w fun e w'=>e= .returned (.tuple #[])/\(∃ N,XL w0 w' C (Al.drawGo E C.fuel d (C.tape.drop x.used) 0 (fun _=>0) x) N)/\KK w w':=by
 obtain⟨y,hy⟩:∃ y,y=Al.drawGo E C.fuel d (C.tape.drop x.used) 0 (fun _=>0) x:=⟨_,rfl⟩
 rw [<-hy]
 obtain⟨j0,hj0,jz0,jz1,jz2⟩:=info_parts Tryz.infoInt
 have q0:=hE.q0
 have n0:=hE.n0
 have n1:=hE.n1
 obtain⟨c0,c1,c5,c11,c12,f11⟩:=h.cells
 have HT:=Lib.hid hT
 have Ht:=Lib.hid ht
 have HY:=Lib.hid hy
 have hw:=ref_width w (E.q - 1) (by omega)
 rw [hbits] at hw
 have eq1:((E.q - 1:Nat):Int)=C.q - 1:=by omega
 rw [eq1] at hw
 replace hw:=hw.mono (R':=fun e w'=>e= .returned (.int .i64 E.bits)/\w=w') (fun e w' hh=>⟨hh.1,hh.2.symm⟩)
 obtain⟨K0,hK0⟩:∃ K0,x.used+K0=C.tape.length+1:=⟨C.tape.length+1 - x.used,by have:=h.l.u;omega⟩
 have cn:(C.n:Int)<=256:=by omega
 have cn0:0<C.n:=by omega
 have cq0:17<=C.q:=by omega
 have cq1:C.q<=8380417:=by omega
 have HB:=Lib.hid h.h.b
 have HX:=Lib.hid h.now
 have EQ:=Lib.hid eq
 have EN:=Lib.hid en
 have HBI:=Lib.hid hbits
 clear hT ht hy h eq en hbits eq1
 go_enter Tryz.func67,Tryz.ntmps67
 go_wp2_with (first
  |(go_at_call 95;refine hw.mono ?_;rintro e w2 ⟨rfl,rfl⟩)
  |(at_make;(refine wpList_make_full _ rfl _ _ 86 rfl w.heap.size 3 j0 (.int .i64 0) 1 Tryz.underlying86 hj0 jz0 jz1 .i64 .i64 _ _ C.n rfl rfl rfl rfl (by rw [jz2];omega) (by unfold maxLen;omega) (Nat.le_refl _) ?_;intro w1 hown1 hgrow1;rw [made_ints] at hown1;have HH:Hid (DW w0 w w1 C w.heap.size (fun _=>0) x):=Lib.hid ⟨(show XL w0 w C x w.heap.size from HX).below (below_grown0 hgrow1),(show Below w0.heap.size w0 w from HB).size,hown1,KK.below (below_grown0 hgrow1),fun j hj=>⟨Int.le_refl 0,show (0:Int)<C.q by omega⟩⟩;clear hown1 hgrow1 hw c0 c1 c5 c11 c12 f11)))
 obtain⟨g0,hg0⟩:∃ g0,g0=w.heap.size:=⟨_,rfl⟩
 rw [<-hg0]
 have HH2:Hid (DW w0 w w1 C g0 (fun _=>0) x):=Lib.hid (by rw [hg0];exact HH)
 clear HH
 replace hg0:=Lib.hid hg0
 go_loopg [7,8] K0 (fun gk v7 v8 w'=>∃ (i:Nat) (f:Nat->Int) (z:Al.RS),v7= .int .i64 i/\z.used+gk=C.tape.length+1/\i<=C.n/\Hid (y=Al.drawGo E C.fuel d (C.tape.drop z.used) i f z)/\Hid (DW w0 w w' C g0 f z))
 case atStart=>exact⟨0,_,x,rfl,hK0,by omega,HY,HH2⟩
 case round=>
  obtain⟨i,f,z,rfl,hg,hi2,HYZ,HD⟩:=hrel
  have D:=show DW w0 w wr C g0 f z from HD
  have hyz:=show y=Al.drawGo E C.fuel d (C.tape.drop z.used) i f z from HYZ
  clear HH2 HYZ HD
  obtain⟨c0,c1,c5,c11,c12,f11⟩:=D.x.cells
  have EN1:=show C.n=E.n from EN
  have hzu:=D.x.l.u
  obtain⟨k1,rfl⟩:∃ k1,gk=k1+1:=⟨gk - 1,by omega⟩
  by_cases hil:i<C.n
  ·have t1:decide ((i:Int)<(C.n:Int))=true:=decide_eq_true (by omega)
   by_cases hu:z.used<C.tape.length
   ·obtain⟨ad,hTa,dt⟩:=tape_at (show (Kd.int .u32).C w0 C.Ta C.tape.length C.tape from HT) hu
    have ht:=(show ∀ t∈C.tape,0<=t/\t<4294967296 from Ht) C.tape[z.used] (List.getElem_mem hu)
    rw [List.drop_eq_getElem_cons hu] at hyz
    obtain⟨t,hte⟩:∃ t,t=C.tape[z.used]:=⟨_,rfl⟩
    rw [<-hte] at dt ht hyz
    replace hte:=Lib.hid hte
    unfold Al.drawGo at hyz
    rw [if_pos (by omega)] at hyz
    unfold Al.RS.stepThen at hyz
    have t2:decide (C.tape.length<=z.used)=false:=decide_eq_false (by omega)
    have HS:=fun m=>lim_step (D.x.drewN m) (by omega)
    have DT:=Lib.hid dt
    have HTA:=Lib.hid hTa
    have own0:=D.o
    have HO:∀ m,Hid ((wr.drewN m).ownsRow w.heap.size 3 1 (.slice (some ⟨g0,0,none⟩) C.n C.n) C.n (vecV C.n f)):=fun m=>Lib.hid own0
    have HK:=Lib.hid D.k
    have HR:=Lib.hid D.r
    by_cases hf:z.steps<C.fuel
    ·rw [if_neg (by omega)] at hyz
     have HYZ:=Lib.hid hyz
     have t3:decide (z.steps<C.fuel)=true:=decide_eq_true hf
     simp only [t3] at HS
     have hu':=Lib.hid hu
     obtain⟨tn,rfl⟩:=Int.eq_ofNat_of_zero_le ht.1
     have hb1:=hE.b1
     have hp1:(1:Nat)<=2 ^ E.bits:=Nat.one_le_two_pow
     have hp2:(2:Nat) ^ E.bits<=2 ^ 24:=Nat.pow_le_pow_right (by decide) hb1
     have hp3:((2:Int) ^ E.bits)=((2 ^ E.bits:Nat):Int):=by simp
     obtain⟨m,hm⟩:∃ m,m=(tn:Int) % 2 ^ E.bits:=⟨_,rfl⟩
     have hm0:0<=m:=by rw [hm];exact Int.emod_nonneg _ (by omega)
     have hm1:m<16777216:=by have:=Int.emod_lt_of_pos (tn:Int) (show (0:Int)<2 ^ E.bits by omega);omega
     have w7:IntKind.u64.wrap (E.bits:Int)=E.bits:=IntWalk.u64_in _ (by omega)
     have w11:bits BinOp.and IntKind.u32 (tn:Int) ((2 ^ min E.bits 32 - 1) % 4294967296)=m:=by
      rw [show min E.bits 32=E.bits by omega,Int.emod_eq_of_lt (by omega) (by omega),and32 tn E.bits (by omega) (by omega),hm]
     have w12:wrap64 m=m:=w64 (by omega) (by omega)
     have z0:(0:Int)<=(z.used:Int):=by omega
     have z1:(z.used:Int)<(C.tape.length:Int):=by omega
     have z2:(z.used:Int)<=4096:=by omega
     have HM:=Lib.hid hm
     have hii:(i:Int)<(C.n:Int):=by omega
     have hi0:(0:Int)<=(i:Int):=by omega
     clear D own0 hTa hyz f11 EN1 hp1 hp2 hp3 hb1 ht hm
     go_wp2_with fail
     go_quiet (fail)
     go_wp2_with (first|(go_at_call 66;(refine (HS _).mono ?_;rintro e w3 ⟨rfl,hK3,hB3,hX3, -⟩;obtain⟨hX3,he3⟩:=hX3 hf;have dt:=cell_since hB3 dt;have hK3:=Lib.hid hK3;clear hB3;have he3:=Lib.hid he3;obtain⟨c0,c1,c5,c11,c12,f11⟩:=hX3.cells;rw [show C.Ta=some ad from HTA] at c5;have hX3:=Lib.hid hX3)))
     clear t3 HS
     go_wp2_with fail
     go_quiet (fail)
     obtain⟨hX5,hK5⟩:=XL.used ((show XL w0 w3 C _ g0 from hX3).drewN nq) (show z.used<C.tape.length from hu')
     have HE:=fun (yes:Bool)=>lim_event hX5 hfuel (show z.evs.length<z.steps+1 from he3) ⟨2,yes,[]⟩ (v:= .slice none 0 0) (World.ownsRow_nil _ _ _ _) (fun k hk=>by cases hk)
     dsimp only at HE hK5
     have hK5:KK w3 _:=hK5
     have own5:=hK5.own ((show KK (wr.drewN _) w3 from hK3).own (show (wr.drewN 0).ownsRow w.heap.size 3 1 (.slice (some ⟨g0,0,none⟩) C.n C.n) C.n (vecV C.n f) from HO 0))
     have kk5:=((show KK w wr from HK).trans (show KK wr w3 from hK3)).trans hK5
     have HK5:=Lib.hid kk5
     have HO5:=Lib.hid own5
     clear own5 kk5 dt c0 c1 c5 c12 hX3 HO hK3 hK5 hX5
     have hgk:Hid (z.used+1+k1=C.tape.length+1):=Lib.hid (by omega)
     by_cases hmq:m<C.q
     ·have t5:decide (m<C.q)=true:=decide_eq_true hmq
      have HN:=HE true
      clear HE
      go_wp2_with (first|(go_at_call 68;(refine HN.mono ?_;rintro e w6 ⟨rfl,hX6,hK6⟩;have own6:=hK6.own HO5;have hX6:=Lib.hid hX6;have hK6:=Lib.hid hK6;obtain⟨u,e0⟩:∃ u,w6.cell? ⟨g0,i,none⟩=some u:=⟨_,(own6.cellAt i (by omega)).trans (List.getElem?_eq_getElem (by simp [vecV,vecN,intsV];omega))⟩;have e1:=own6.frozenAt (j:=i);have own6:=Lib.hid own6)))
      go_roundg k1
      case measure=>omega
      case rel=>
       refine⟨i+1,Al.upd f i m,{ z with steps:=z.steps+1,used:=z.used+1,evs:=z.evs++[⟨2,true,[]⟩]},by simp,hgk,by omega,Lib.hid ?_,Lib.hid (DW.put HR hX6 own6 ((show KK w _ from HK5).trans hK6) hg0 (by rw [show g0=_ from hg0];exact (show Below w0.heap.size w0 w from HB).size) i ⟨hm0,hmq⟩)⟩
       have hq2:=show C.q=E.q from EQ
       have hy2:=HYZ.out
       try dsimp only at hy2
       rw [<-show m=_ from HM,if_pos (by omega),decide_eq_true (show m<(E.q:Int) by omega)] at hy2
       exact hy2
     ·have t5:decide (m<C.q)=false:=decide_eq_false hmq
      have HN:=HE false
      clear HE
      go_wp2_with (first|(go_at_call 68;(refine HN.mono ?_;rintro e w6 ⟨rfl,hX6,hK6⟩;have own6:=Lib.hid (hK6.own HO5);have hX6:=Lib.hid hX6;have hK6:=Lib.hid hK6)))
      go_roundg k1
      case measure=>omega
      case rel=>
       refine⟨i,f,{ z with steps:=z.steps+1,used:=z.used+1,evs:=z.evs++[⟨2,false,[]⟩]},rfl,hgk,by omega,Lib.hid ?_,Lib.hid ⟨hX6,by rw [show g0=_ from hg0];exact (show Below w0.heap.size w0 w from HB).size,own6,(show KK w _ from HK5).trans hK6,HR⟩⟩
       have hq2:=show C.q=E.q from EQ
       have hy2:=HYZ.out
       try dsimp only at hy2
       rw [<-show m=_ from HM,if_neg (by omega),decide_eq_false (show¬m<(E.q:Int) by omega)] at hy2
       exact hy2
    ·rw [if_pos (by omega)] at hyz
     have HF:=Lib.hid hyz
     have t3:decide (z.steps<C.fuel)=false:=decide_eq_false hf
     simp only [t3] at HS
     clear D own0 dt hTa hyz f11
     go_wp2_with fail
     go_quiet (fail)
     go_wp2_with (first|(go_at_call 66;go_loud (refine (HS _).mono ?_;rintro e w3 ⟨rfl,hK3,hB3, -,hX3⟩;replace hX3:=Lib.hid (hX3 hf);replace hK3:=Lib.hid hK3;clear hB3)))
     exact bodyPost_ret (v:= .tuple #[]) (by simp [results,Tryz.results67,go_sem]) rfl ⟨rfl,⟨_,by rw [show y=_ from HF];exact hX3⟩,(show KK w wr from HK).trans hK3⟩
   ·have hfin:y=z.fin 1:=by
     rw [hyz,List.drop_eq_nil_of_le (by omega)]
     unfold Al.drawGo
     rw [if_pos (by omega)]
    have t2:decide (C.tape.length<=z.used)=true:=decide_eq_true (by omega)
    have HE:=fun m=>lim_end (D.x.drewN m) 1
    have HK:=Lib.hid D.k
    have HF:=Lib.hid hfin
    clear D hyz hfin hu hzu EN1 f11
    go_wp2_with fail
    go_quiet (fail)
    go_wp2_with (first|(go_at_call 94;refine (HE _).mono ?_;rintro e w3 ⟨rfl,hX,hK⟩;replace hX:=Lib.hid hX;replace hK:=Lib.hid hK))
    exact bodyPost_ret (v:= .tuple #[]) (by simp [results,Tryz.results67,go_sem]) rfl ⟨rfl,⟨_,by rw [show y=_ from HF];exact hX⟩,(show KK w wr from HK).trans hK⟩
  ·have hin:i=C.n:=by omega
   have hfin:y={ z with V:=Al.setV z.V d f}:=by rw [hyz,Al.drawGo_done _ (by omega)]
   have t1:decide ((i:Int)<(C.n:Int))=false:=decide_eq_false (by omega)
   obtain⟨g4,vcap,c4,⟨u,e0⟩,e1,hne,hXf,hKf⟩:=D.x.vec hd (own_lower D.o (show Below w0.heap.size w0 w from HB).size) D.r
   have hXf:=Lib.hid hXf
   have hKf:=Lib.hid ((D.k).trans hKf)
   have HF:=Lib.hid hfin
   have d0:(0:Int)<=(d:Int):=by omega
   have d1:(d:Int)<(C.nv:Int):=by omega
   clear D hyz hfin EN1 f11 hin
   go_wp2_with fail
   exact bodyPost_end (v:= .tuple #[]) (by simp [results,Tryz.results67,go_sem]) rfl ⟨rfl,⟨_,by rw [show y=_ from HF];exact hXf⟩,hKf⟩
end Go.Proofs.YtkplfaionpplaaaGreatDoor
namespace Go.Proofs.YtkplfaionpplaaaGreatDoor.Al
def Sl (x y:RS)(c:Nat):Prop:=y.evs.length+x.steps<=y.steps+x.evs.length+c
section
variable {E:Env} {fuel:Nat}
theorem Sl.trans {x y z:RS}{c:Nat}(h:Sl x y 0)(h2:Sl y z c):Sl x z c:=by unfold Sl at *;omega
theorem sl_then {f:RS->RS}(h:∀ z,Sl z (f z) 1)(x:RS):Sl x (x.stepThen fuel f) 0:=by
 unfold RS.stepThen
 split
 ·unfold Sl RS.fin;dsimp only;omega
 ·have:=h { x with steps:=x.steps+1}
  unfold Sl at *
  dsimp only at this
  omega
theorem sl_times {f:RS->RS}(h:∀ z,Sl z (f z) 0):∀ (k:Nat) (x:RS),Sl x (timesN f k x) 0
 |0,x=>by unfold timesN Sl;omega
 |k+1,x=>by
  unfold timesN
  split
  ·unfold Sl;omega
  ·exact (h x).trans (sl_times h k _)
theorem sl_until {a:Nat}{f:RS->RS}(h:∀ z,Sl z (f z) 0):∀ (k:Nat) (x:RS),Sl x (untilN fuel a f k x) 0
 |0,x=>by unfold untilN Sl RS.fin;dsimp only;omega
 |k+1,x=>by
  unfold untilN
  refine sl_then (fun z=>?_) x
  have h1:=h z
  dsimp only
  split
  ·unfold Sl at *;omega
  ·split
   ·unfold Sl at *;simp only [List.length_append,List.length_cons,List.length_nil];omega
   ·have h2:=sl_until (a:=a) h k { f z with evs:=(f z).evs++[⟨3,decide ((f z).V a 0≠0),[]⟩]}
    unfold Sl at *
    simp only [List.length_append,List.length_cons,List.length_nil] at h2
    omega
theorem sl_draw {d:Nat}:∀ (l:List Int) (i:Nat) (f:Nat->Int) (x:RS),Sl x (drawGo E fuel d l i f x) 0
 |[],i,f,x=>by unfold drawGo;split<;> unfold Sl<;> simp [RS.fin]<;> omega
 |t :: rest,i,f,x=>by
  unfold drawGo
  split
  ·refine sl_then (fun z=>?_) x
   dsimp only
   split
   ·have h:=sl_draw (d:=d) rest (i+1) (upd f i (t % 2 ^ E.bits)) { z with used:=z.used+1,evs:=z.evs++[⟨2,decide (t % 2 ^ E.bits<E.q),[]⟩]}
    unfold Sl at *
    simp only [List.length_append,List.length_cons,List.length_nil] at h
    omega
   ·have h:=sl_draw (d:=d) rest i f { z with used:=z.used+1,evs:=z.evs++[⟨2,decide (t % 2 ^ E.bits<E.q),[]⟩]}
    unfold Sl at *
    simp only [List.length_append,List.length_cons,List.length_nil] at h
    omega
  ·unfold Sl;dsimp only;omega
mutual
theorem sl_stmt:∀ (s:Stmt) (x:RS),Sl x (exS E fuel s x) 0
 |⟨op,d,a,b,c,k,body,els⟩,x=>by
  unfold exS
  split
  ·exact sl_until (fun z=>sl_list body z) _ _
  ·refine sl_then (fun z=>?_) x
   dsimp only
   split
   ·have:=sl_draw (E:=E) (fuel:=fuel) (d:=d.toNat) (z.tape.drop z.used) 0 (fun _=>0) z
    unfold Sl at *;omega
   ·split
    ·split
     ·have:=sl_list body { z with evs:=z.evs++[⟨3,decide (z.V a.toNat 0≠0),[]⟩]}
      unfold Sl at *
      simp only [List.length_append,List.length_cons,List.length_nil] at this
      omega
     ·have:=sl_list els { z with evs:=z.evs++[⟨3,decide (z.V a.toNat 0≠0),[]⟩]}
      unfold Sl at *
      simp only [List.length_append,List.length_cons,List.length_nil] at this
      omega
    ·split
     ·have:=sl_times (fun z=>sl_list body z) k.toNat z
      unfold Sl at *;omega
     ·split
      ·unfold Sl;simp only [List.length_append,List.length_cons,List.length_nil];omega
      ·unfold Sl;dsimp only;omega
theorem sl_list:∀ (l:List Stmt) (x:RS),Sl x (exL E fuel l x) 0
 |[],x=>by unfold exL Sl;omega
 |s :: l,x=>by
  unfold exL
  split
  ·unfold Sl;omega
  ·exact (sl_stmt s x).trans (sl_list l _)
end
end
end Go.Proofs.YtkplfaionpplaaaGreatDoor.Al
namespace Go.Proofs.YtkplfaionpplaaaGreatDoor
open Go.RowKit Go.Proofs.YtkplfaionpplaaaGreatDoorW.PrintWords
theorem add_zero' (A:Addr):A.add 0=A:=by unfold Addr.add;split<;> simp_all
structure RunE (w0:World)(C:XC)(E:Al.Env):Prop where
 ok:E.Ok
 q2:E.q<=8380417
 q:C.q=E.q
 n:C.n=E.n
 nv:C.nv=E.nv
 bits:((wid 23 (E.q - 1):Nat):Int)=E.bits
 fuel:C.fuel<=100000000
 T:(Kd.int .u32).C w0 C.Ta C.tape.length C.tape
 t:∀ t∈C.tape,0<=t/\t<4294967296
 tl:C.tape.length<=4096
def AllPost (w0:World)(C:XC)(y:Al.RS)(w:World)(e:Ending)(w':World):Prop:=e= .returned (.tuple #[])/\(∃ N,XL w0 w' C y N)/\KK w w'
def RunAllC (w0:World)(C:XC)(E:Al.Env)(deep:Nat):Prop:=∀ (l:List Al.Stmt) (A:Option Addr) (cap:Nat),kStmt.C w0 A l.length l->Al.GoodL E deep l->(Al.flatL l).length<=1000->∀ (w:World) (x:Al.RS) (N:Nat),XL w0 w C x N->
 Calls Tryz.prog 35 #[.pointer (some ⟨C.kx,0,none⟩),.slice A l.length cap] w (AllPost w0 C (Al.exL E C.fuel l x) w)
structure UW (w0 w wr:World)(C:XC)(z:Al.RS)(ks:Nat)(sv:Array Value):Prop where
 x:∃ N,XL w0 wr C z N
 k:KK w wr
 s:wr.heap[ks]?=some (.cells sv 66 (0,0))
theorem UW.of {w0 w wr w2:World}{C:XC}{z z2:Al.RS}{ks:Nat}{sv:Array Value}(h:UW w0 w wr C z ks sv)(hx:∃ N,XL w0 w2 C z2 N)(hk:KK wr w2):UW w0 w w2 C z2 ks sv:=⟨hx,h.k.trans hk,hk _ (by decide) (by decide) (by decide) _ _ h.s⟩
set_option maxHeartbeats 12800000 in
theorem until_run {w0:World}{C:XC}{E:Al.Env}{deep:Nat}(H:RunE w0 C E)(hA:RunAllC w0 C E (deep+1)){d a b c:Int}{K:Nat}{body:List Al.Stmt}{A6:Option Addr}{c6:Nat}(g6:kStmt.C w0 A6 body.length body)(x7:Value)(va:Al.isVar E a)(hK:K<=50)(gb:Al.GoodL E (deep+1) body)(hfl:(Al.flatL body).length<=1000)
  {w:World} {x:Al.RS} {N:Nat} (h:XL w0 w C x N):
  Calls Tryz.prog 65 #[.pointer (some ⟨C.kx,0,none⟩),.agg #[.int .i64 16,.int .i64 d,.int .i64 a,.int .i64 b,.int .i64 c,.int .i64 K,.slice A6 body.length c6,x7]] w (AllPost w0 C (Al.untilN C.fuel a.toNat (Al.exL E C.fuel body) K x) w):=by
 obtain⟨ja,rfl,hja⟩:=nat_var va
 rw [Int.toNat_natCast]
 obtain⟨y,hy⟩:∃ y,y=Al.untilN C.fuel ja (Al.exL E C.fuel body) K x:=⟨_,rfl⟩
 rw [<-hy]
 obtain⟨sv,hsv⟩:∃ sv:Array Value,sv= #[.int .i64 16,.int .i64 d,.int .i64 ja,.int .i64 b,.int .i64 c,.int .i64 K,.slice A6 body.length c6,x7]:=⟨_,rfl⟩
 obtain⟨W,hW⟩:∃ W,W=w.alloc (.cells sv 66):=⟨_,rfl⟩
 obtain⟨ks,hks⟩:∃ ks,ks=w.heap.size:=⟨_,rfl⟩
 have HH:Hid (UW w0 w W C x ks sv):=Lib.hid ⟨⟨N,by rw [hW];exact h.alloc _⟩,by rw [hW];exact fun t _ _ _ k c hc=>alloc_blk _ hc,by rw [hW,hks];exact heap_alloc_new w _⟩
 have hva:ja<C.nv:=by have:=H.nv;omega
 have hn0:0<C.n:=by have:=H.n;have:=H.ok.n0;omega
 have HY:=Lib.hid hy
 have HSV:=Lib.hid hsv
 have ja0:(0:Int)<=(ja:Int):=by omega
 have ja1:(ja:Int)<(C.nv:Int):=by omega
 have n01:(0:Int)<(C.n:Int):=by omega
 have hfu:=H.fuel
 rw [hsv] at hW
 clear hy hsv va h
 go_enter Tryz.func65,Tryz.ntmps65
 go_wp2_with fail
 rw [<-hW]
 simp only [<-hks]
 replace hks:=Lib.hid hks
 clear hW
 go_loopg [4,5] (K+1) (fun gk v4 v5 w'=>∃ (j:Nat) (z:Al.RS),v4= .int .i64 j/\j+gk=K+1/\j<=K/\Hid (y=Al.untilN C.fuel ja (Al.exL E C.fuel body) (K - j) z)/\Hid (UW w0 w w' C z ks sv))
 case atStart=>exact⟨0,x,rfl,by omega,by omega,HY,HH⟩
 case round=>
  obtain⟨j,z,rfl,hg,hj2,HYZ,HU⟩:=hrel
  have U:=show UW w0 w wr C z ks sv from HU
  have hyz:=show y=Al.untilN C.fuel ja (Al.exL E C.fuel body) (K - j) z from HYZ
  clear HH HYZ HU
  have hsv:=show sv=_ from HSV
  have hs:=U.s
  rw [hsv] at hs
  have s5:wr.cell? ⟨ks,5,none⟩=some (.int .i64 K):=(cell_blk hs _).trans rfl
  obtain⟨k1,rfl⟩:∃ k1,gk=k1+1:=⟨gk - 1,by omega⟩
  obtain⟨N,hX⟩:=U.x
  by_cases hjk:j<K
  ·have t1:decide ((j:Int)<(K:Int))=true:=decide_eq_true (by omega)
   have t1n:decide (j<K)=true:=decide_eq_true hjk
   have HS:=lim_step hX (by omega)
   rw [show K - j=(K - (j+1))+1 by omega] at hyz
   unfold Al.untilN Al.RS.stepThen at hyz
   by_cases hf:z.steps<C.fuel
   ·rw [if_neg (by omega)] at hyz
    have t3:decide (z.steps<C.fuel)=true:=decide_eq_true hf
    simp only [t3] at HS
    have HA:=hA body A6 c6 g6 gb hfl
    obtain⟨z1,hz1⟩:∃ z1,z1={ z with steps:=z.steps+1}:=⟨_,rfl⟩
    rw [<-hz1] at hyz
    simp only [<-hz1] at HS
    obtain⟨z2,hz2⟩:∃ z2,z2=Al.exL E C.fuel body z1:=⟨_,rfl⟩
    simp only [<-hz2] at hyz
    have he4:Hid (z2.evs.length<z2.steps):=Lib.hid (by
     have h1:=Al.sl_list (E:=E) (fuel:=C.fuel) body z1
     have h2:=hX.l.e
     rw [<-hz2] at h1
     unfold Al.Sl at h1
     rw [hz1] at h1
     dsimp only at h1
     omega)
    have HYZ:=Lib.hid hyz
    have UU:=Lib.hid U
    have HA1:=fun (w1:World) (hX1:XL w0 w1 C z1 N)=>hA body A6 c6 g6 gb hfl w1 z1 N hX1
    rw [<-hz2] at HA1
    have HZ1:=Lib.hid hz1
    replace hz2:=Lib.hid hz2
    clear U hs hsv hyz HA hz1 hX
    cases hov:z2.over with
    |true=>
     have HF:Hid (y=z2):=Lib.hid (by have h2:=HYZ.out;rw [hov] at h2;simpa using h2)
     go_wp2_with (first
      |(go_at_call 66;(refine HS.mono ?_;rintro e w3 ⟨rfl,hK3,hB3,hX3, -⟩;obtain⟨hX3,he3⟩:=hX3 hf;have U3:=(show UW w0 w wr C z ks sv from UU).of ⟨_,hX3⟩ hK3;have hs3:=U3.s;rw [show sv=_ from HSV] at hs3;have s6:w3.cell? ⟨ks,6,none⟩=some (.slice A6 body.length c6):=(cell_blk hs3 _).trans rfl;clear hs3 s5;have U3:=Lib.hid U3;clear hK3 hB3 he3;have HA2:=HA1 w3 hX3;clear HA1 hX3 UU))
      |(go_at_call 35;(refine HA2.mono ?_;rintro e w4 ⟨rfl,hX4,hK4⟩;have U4:=(show UW w0 w w3 C z1 ks sv from U3).of hX4 hK4;obtain⟨N4,hX4⟩:=hX4;have hs4:=U4.s;rw [show sv=_ from HSV] at hs4;have s2:w4.cell? ⟨ks,2,none⟩=some (.int .i64 ja):=(cell_blk hs4 _).trans rfl;have s5:w4.cell? ⟨ks,5,none⟩=some (.int .i64 K):=(cell_blk hs4 _).trans rfl;have c12:w4.cell? ⟨C.kx,12,none⟩=some (.bool z2.over):=hX4.cells.2.2.2.2.1;rw [hov] at c12;have U4:=Lib.hid U4;have hX4:=Lib.hid hX4;clear hs4 hK4 U3 HA2)))
     have U:=show UW w0 w w4 C z2 ks sv from U4
     exact bodyPost_ret (v:= .tuple #[]) (by simp [results,Tryz.results65,go_sem]) rfl ⟨rfl,by rw [show y=_ from HF];exact U.x,U.k⟩
    |false=>
     go_wp2_with (first
      |(go_at_call 66;(refine HS.mono ?_;rintro e w3 ⟨rfl,hK3,hB3,hX3, -⟩;obtain⟨hX3,he3⟩:=hX3 hf;have U3:=(show UW w0 w wr C z ks sv from UU).of ⟨_,hX3⟩ hK3;have hs3:=U3.s;rw [show sv=_ from HSV] at hs3;have s6:w3.cell? ⟨ks,6,none⟩=some (.slice A6 body.length c6):=(cell_blk hs3 _).trans rfl;clear hs3 s5;have U3:=Lib.hid U3;clear hK3 hB3 he3;have HA2:=HA1 w3 hX3;clear HA1 hX3 UU))
      |(go_at_call 35;(refine HA2.mono ?_;rintro e w4 ⟨rfl,hX4,hK4⟩;have U4:=(show UW w0 w w3 C z1 ks sv from U3).of hX4 hK4;obtain⟨N4,hX4⟩:=hX4;have hs4:=U4.s;rw [show sv=_ from HSV] at hs4;have s2:w4.cell? ⟨ks,2,none⟩=some (.int .i64 ja):=(cell_blk hs4 _).trans rfl;have s5:w4.cell? ⟨ks,5,none⟩=some (.int .i64 K):=(cell_blk hs4 _).trans rfl;have c12:w4.cell? ⟨C.kx,12,none⟩=some (.bool z2.over):=hX4.cells.2.2.2.2.1;rw [hov] at c12;have U4:=Lib.hid U4;have hX4:=Lib.hid hX4;clear hs4 hK4 U3 HA2)))
     obtain⟨ad,cap,c4,R⟩:=(show XL w0 w4 C z2 N4 from hX4).rows hn0 (by omega)
     obtain⟨A,ca,r1,r2⟩:=R.c ja hva
     replace r2:=r2 0 hn0
     have r3:w4.cell? A=some (.int .i64 (z2.V ja 0)):=by rw [<-add_zero' A];exact r2
     clear R
     have hgk:Hid (j+1+k1=K+1):=Lib.hid (by omega)
     have HE:=fun (m:Nat) (yes:Bool)=>lim_event ((show XL w0 w4 C z2 N4 from hX4).drewN m) hfu he4 ⟨3,yes,[]⟩ (v:= .slice none 0 0) (World.ownsRow_nil _ _ _ _) (fun k hk=>by cases hk)
     dsimp only at HE
     by_cases hv0:z2.V ja 0=0
     ·have t5:(z2.V ja 0 !=0)=false:=by simp [hv0]
      have t6:(z2.V ja 0 == 0)=true:=by simp [hv0]
      have HF:Hid (y=Al.untilN C.fuel ja (Al.exL E C.fuel body) (K - (j+1)) { z2 with evs:=z2.evs++[⟨3,false,[]⟩]}):=Lib.hid (by
       have h2:=HYZ.out
       rw [if_neg (by rw [hov];decide)] at h2
       rw [show decide (z2.V ja 0≠0)=false by simp [hv0]] at h2
       exact h2)
      clear hv0
      go_wp2_with fail
      go_quiet (fail)
      go_wp2_with (first|(go_at_call 68;(refine (HE _ false).mono ?_;rintro e w6 ⟨rfl,hX6,hK6⟩;have U6:=Lib.hid (UW.of (show UW w0 w w4 C z2 ks sv from U4) ⟨_,hX6⟩ (show KK w4 w6 from hK6));clear hX6 hK6)))
      go_roundg k1
      case measure=>omega
      case rel=>exact⟨j+1,_,by simp,hgk,by omega,HF,U6⟩
     ·have t5:(z2.V ja 0 !=0)=true:=by simp [hv0]
      have t6:(z2.V ja 0 == 0)=false:=by simp [hv0]
      have HF:Hid (y={ z2 with evs:=z2.evs++[⟨3,true,[]⟩]}):=Lib.hid (by
       have h2:=HYZ.out
       rw [if_neg (by rw [hov];decide)] at h2
       rw [show decide (z2.V ja 0≠0)=true by simp [hv0]] at h2
       exact h2)
      clear hv0
      go_wp2_with fail
      go_quiet (fail)
      go_wp2_with (first|(go_at_call 68;(refine (HE _ true).mono ?_;rintro e w6 ⟨rfl,hX6,hK6⟩;have U6:=UW.of (show UW w0 w w4 C z2 ks sv from U4) ⟨_,hX6⟩ (show KK w4 w6 from hK6);have P6:Hid ((∃ N,XL w0 w6 C y N)/\KK w w6):=Lib.hid ⟨by rw [show y=_ from HF];exact U6.x,U6.k⟩;clear hX6 hK6 U6)))
      exact bodyPost_ret (v:= .tuple #[]) (by simp [results,Tryz.results65,go_sem]) rfl ⟨rfl,P6⟩
   ·rw [if_pos (by omega)] at hyz
    have t3:decide (z.steps<C.fuel)=false:=decide_eq_false hf
    simp only [t3] at HS
    have HF:=Lib.hid hyz
    have UK:=Lib.hid U.k
    clear U hs hsv hyz hX
    go_wp2_with (first|(go_at_call 66;(refine HS.mono ?_;rintro e w3 ⟨rfl,hK3,hB3, -,hX3⟩;have P6:Hid ((∃ N,XL w0 w3 C y N)/\KK w w3):=Lib.hid ⟨⟨_,by rw [show y=_ from HF];exact hX3 hf⟩,(show KK w wr from UK).trans hK3⟩;clear hK3 hB3 hX3)))
    exact bodyPost_ret (v:= .tuple #[]) (by simp [results,Tryz.results65,go_sem]) rfl ⟨rfl,P6⟩
  ·have hje:K - j=0:=by omega
   have t1:decide ((j:Int)<(K:Int))=false:=decide_eq_false (by omega)
   have t1n:decide (j<K)=false:=decide_eq_false hjk
   rw [hje] at hyz
   unfold Al.untilN at hyz
   have HE:=lim_end hX 2
   have HF:=Lib.hid hyz
   have UK:=Lib.hid U.k
   clear U hs hsv hyz hX hje
   go_wp2_with (first|(go_at_call 94;(refine HE.mono ?_;rintro e w3 ⟨rfl,hX3,hK3⟩;have P6:Hid ((∃ N,XL w0 w3 C y N)/\KK w w3):=Lib.hid ⟨⟨_,by rw [show y=_ from HF];exact hX3⟩,(show KK w wr from UK).trans hK3⟩;clear hK3 hX3)))
   exact bodyPost_end (v:= .tuple #[]) (by simp [results,Tryz.results65,go_sem]) rfl ⟨rfl,P6⟩
end Go.Proofs.YtkplfaionpplaaaGreatDoor
namespace Go.Proofs.YtkplfaionpplaaaGreatDoor.Al
theorem step_range {E:Env}(hE:E.Ok){s:Stmt}(g:GoodV E s)(h12:s.op<=12){V:Vs}(hV:∀ v k,v<E.nv->k<E.n->0<=V v k/\V v k<E.q){j:Nat}(hj:j<E.n):0<=stepF E s V j/\stepF E s V j<E.q:=by
 have q0:=hE.q0
 have hm:∀ x:Int,0<=x % E.q/\x % E.q<E.q:=fun x=>⟨Int.emod_nonneg _ (by omega),Int.emod_lt_of_pos _ (by omega)⟩
 have hvar:∀ v:Int,isVar E v->0<=V v.toNat j/\V v.toNat j<E.q:=fun v h=>hV _ _ (by unfold isVar at h;omega) hj
 have g1:=g.op
 unfold stepF
 by_cases h2:s.op=2\/s.op=12
 ·rw [if_pos h2];exact hvar _ (g.a (by omega) (by omega))
 rw [if_neg h2]
 by_cases h3:s.op=3
 ·rw [if_pos h3];exact hm _
 rw [if_neg h3]
 by_cases h4:s.op=4
 ·rw [if_pos h4];exact hm _
 rw [if_neg h4]
 by_cases h5:s.op=5
 ·rw [if_pos h5];exact hm _
 rw [if_neg h5]
 by_cases h6:s.op=6
 ·rw [if_pos h6];exact hm _
 rw [if_neg h6]
 by_cases h7:s.op=7
 ·rw [if_pos h7];exact hm _
 rw [if_neg h7]
 by_cases h8:s.op=8
 ·rw [if_pos h8]
  obtain⟨a1,a2,a3⟩:=g.k8 (.inl h8)
  have hp:(0:Int)<2 ^ s.k.toNat:=Int.pow_pos (by omega)
  have h1:=Int.emod_lt_of_pos ((V s.a.toNat j * 2 ^ s.k.toNat+((E.q:Int) - 1) / 2) / E.q) hp
  have h2:=Int.emod_nonneg ((V s.a.toNat j * 2 ^ s.k.toNat+((E.q:Int) - 1) / 2) / E.q) (show (2:Int) ^ s.k.toNat≠0 by omega)
  exact⟨h2,by omega⟩
 rw [if_neg h8]
 by_cases h9:s.op=9
 ·rw [if_pos h9]
  obtain⟨a1,a2,a3⟩:=g.k8 (.inr h9)
  obtain⟨K,hK⟩:∃ K,s.k.toNat=K+1:=⟨s.k.toNat - 1,by omega⟩
  rw [hK] at a3 ⊢
  have hp:(0:Int)<2 ^ K:=Int.pow_pos (by omega)
  have e:(2:Int) ^ (K+1)=2 ^ K * 2:=Int.pow_succ _ _
  have h1:=Int.emod_lt_of_pos (V s.a.toNat j) (show (0:Int)<2 ^ (K+1) by omega)
  have h2:=Int.emod_nonneg (V s.a.toNat j) (show (2:Int) ^ (K+1)≠0 by omega)
  obtain⟨r,hr⟩:∃ r,r=V s.a.toNat j % 2 ^ (K+1):=⟨_,rfl⟩
  rw [<-hr] at h1 h2 ⊢
  rw [Nat.add_sub_cancel]
  have h3:(0:Int)<=(E.q:Int) * r:=Int.mul_nonneg (by omega) h2
  have h4:(E.q:Int) * r<=(E.q:Int) * (2 ^ (K+1) - 1):=Int.mul_le_mul_of_nonneg_left (by omega) (by omega)
  rw [Int.mul_sub,Int.mul_one] at h4
  refine⟨Int.ediv_nonneg (by omega) (by omega),?_⟩
  exact Int.ediv_lt_of_lt_mul (by omega) (by omega)
 rw [if_neg h9]
 by_cases h10:s.op=10
 ·rw [if_pos h10]
  split
  ·exact hvar _ (g.b (by omega))
  ·exact hvar _ (g.c h10)
 rw [if_neg h10]
 by_cases h11:s.op=11
 ·rw [if_pos h11]
  split
  ·rcases nacc_01 (near E s.k V s.a.toNat) E.n with h|h<;> rw [h]<;> omega
  ·omega
 rw [if_neg h11]
 omega
end Go.Proofs.YtkplfaionpplaaaGreatDoor.Al
