/- Part 24: B75, B76, P32, P33. -/
import Derived.Test.YtkplfaionpplaaaGreatDoorK23
set_option maxRecDepth 100000
set_option maxHeartbeats 6400000
set_option linter.unusedVariables false
set_option linter.unusedSimpArgs false
namespace Go.Proofs.YtkplfaionpplaaaGreatDoor
open Go.RowKit Go.Proofs.YtkplfaionpplaaaGreatDoorW.PrintLast
structure Rows (w:World)(ad:Addr)(nv n:Nat)(q:Int)(V:Nat->Nat->Int):Prop where
 c:∀ i,i<nv->∃ A ca,w.cell? (ad.add i)=some (.slice (some A) n ca)/\∀ j,j<n->w.cell? (A.add j)=some (.int .i64 (V i j))
 r:∀ i,i<nv->∀ j,j<n->0<=V i j/\V i j<q
theorem app_int {ops:Array Oper}{rest:List Oper}{o:Oper}{a:Act}{Q:Exit->Act->World->Prop}(hgd:o.guard=none)(s u:Operand)(ho:o.op= .call { callee:= .builtin .append,args:= #[s,u],argTypes:= #[86,86]})
  {w wr:World} {v:Value} {n:Nat} {xs:List Value} {x:Int} (hs:a.eval s=v) (hown:wr.ownsRow w.heap.size 3 1 v n xs) (hb:Below w.heap.size w wr) (hu:a.eval u= .slice (some ⟨wr.heap.size,0,none⟩) 1 1) (hn:n<=1000000)
  (h:∀ v1 w',w'.ownsRow w.heap.size 3 1 v1 (n+1) (xs++[.int .i64 x])->Below w.heap.size w w'->(∀ t,3≠t->Keeps wr w' t)->wpList Tryz.prog ops Q rest (a.put o.dst v1) w'):
  wpList Tryz.prog ops Q (o :: rest) a (wr.alloc (.cells #[.int .i64 x] 3)):=by
 obtain⟨j0,hj0,jz0,jz1,jz2⟩:=info_parts Tryz.infoInt
 have own1:=hown.alloc (.cells #[.int .i64 x] 3)
 refine append_row hgd s u 86 ho w.heap.size 3 j0 _ 1 8 Tryz.underlying86 hj0 jz0 jz1 jz2 rfl (by omega) _ _ _ hs own1 w.heap.size _ _ _ hu (row_one wr hb.size (.int .i64 x) 3) (by intro u hu;rw [List.mem_singleton.1 hu];rfl) (by unfold maxLen;omega) (by omega) (by have:=hb.size;simp;omega) ?_
 intro v1 w1 hown1 hg
 refine h v1 w1 hown1 (below_grown2 (hb.alloc hb.size _) hg (fun k hk=>(own1.lt k hk).1) (by have:=hb.size;simp;omega)) (fun t ht i c hc=>?_)
 have hc1:=alloc_blk (.cells #[.int .i64 x] 3) hc
 rcases hg with rfl|hg
 ·exact hc1
 ·exact Keeps.grown (t:=t) hg (fun k hk=>by obtain⟨c,hc⟩:=own_type own1 hk;exact⟨c,_,hc,ht⟩) i c hc1
structure StB (w0 w:World)(kq ks:Nat)(q:Int)(n:Nat)(sv:Array Value):Prop where
 q:w.heap[kq]?=some (.cells #[.int .i64 q,.int .i64 n] 23 (0,0))
 s:w.heap[ks]?=some (.cells sv 66 (0,0))
 b:Below w0.heap.size w0 w
theorem StB.keeps {w0 w w':World}{kq ks:Nat}{q:Int}{n:Nat}{sv:Array Value}(h:StB w0 w kq ks q n sv)(hb:Below w0.heap.size w0 w')(hk:∀ t,3≠t->Keeps w w' t):StB w0 w' kq ks q n sv:=⟨hk _ (by decide) _ _ h.q,hk _ (by decide) _ _ h.s,hb⟩
theorem StB.below {w0 w w':World}{kq ks:Nat}{q:Int}{n:Nat}{sv:Array Value}(h:StB w0 w kq ks q n sv)(hb:Below w.heap.size w w'):StB w0 w' kq ks q n sv:=⟨below_blk hb h.q (blk_lt h.q),below_blk hb h.s (blk_lt h.s),h.b.trans (lower_below hb h.b.size)⟩
theorem Rows.vec {w w':World}{ad:Addr}{nv n:Nat}{q:Int}{V:Nat->Nat->Int}(h:Rows w ad nv n q V){i:Nat}(hi:i<nv)(hb:Below w.heap.size w w'):∃ A ca,w'.cell? (ad.add i)=some (.slice (some A) n ca)/\Vec w' (some A) n (V i):=by
 obtain⟨A,ca,h1,h2⟩:=h.c i hi
 exact⟨A,ca,cell_since hb h1,A,rfl,fun j hj=>cell_since hb (h2 j hj)⟩
theorem own_lower {w:World}{B B2 n:Nat}{e:TypeId}{size:Nat}{v:Value}{xs:List Value}(h:w.ownsRow B e size v n xs)(hB:B2<=B):w.ownsRow B2 e size v n xs:=by
 refine⟨h.1,?_⟩
 rcases h.2 with h0|⟨g,cap,cur,rfl,h1,h2⟩
 ·exact .inl h0
 ·exact .inr ⟨g,cap,cur,rfl,by omega,h2⟩
theorem step_add {w:World}{q:Int}{n nv:Nat}{V:Nat->Nat->Int}{ad:Addr}(cap:Nat)(R:Rows w ad nv n q V)(hq:17<=q/\q<=8380417)(hn:4<=n/\n<=256)(hv:nv<=12)(d:Int)(x6 x7:Value){ja jb:Nat}(hjav:ja<nv)(hjbv:jb<nv)(c k:Int):
  Calls Tryz.prog 69 #[.agg #[.int .i64 q,.int .i64 n],.agg #[.int .i64 3,.int .i64 d,.int .i64 ja,.int .i64 jb,.int .i64 c,.int .i64 k,x6,x7],.slice (some ad) nv cap] w fun e w'=>∃ v,e= .returned v/\w'.ownsRow w.heap.size 3 1 v n (vecV n (fun j=>(V ja j+V jb j) % q))/\Below w.heap.size w w':=by
 obtain⟨W,hW⟩:∃ W,W=(w.alloc (.cells #[.int .i64 q,.int .i64 n] 23)).alloc (.cells #[.int .i64 3,.int .i64 d,.int .i64 ja,.int .i64 jb,.int .i64 c,.int .i64 k,x6,x7] 66):=⟨_,rfl⟩
 obtain⟨kq,hkq⟩:∃ kq,kq=w.heap.size:=⟨_,rfl⟩
 have B0:StB w W kq (kq+1) q n #[.int .i64 3,.int .i64 d,.int .i64 ja,.int .i64 jb,.int .i64 c,.int .i64 k,x6,x7]:=by rw [hW,hkq];exact⟨alloc_blk _ (heap_alloc_new w _),alloc_at _ _ _,alloc_two w _ _⟩
 have s0:W.cell? ⟨kq+1,0,none⟩=some (.int .i64 3):=(cell_blk B0.s _).trans rfl
 have s2:W.cell? ⟨kq+1,2,none⟩=some (.int .i64 ja):=(cell_blk B0.s _).trans rfl
 have s3:W.cell? ⟨kq+1,3,none⟩=some (.int .i64 jb):=(cell_blk B0.s _).trans rfl
 obtain⟨A,ca,rja,hja⟩:=R.vec hjav B0.b
 have ja0:(0:Int)<=(ja:Int):=by omega
 have ja1:(ja:Int)<(nv:Int):=by omega
 have Vja:=R.r ja hjav
 obtain⟨B,cb,rjb,hjb⟩:=R.vec hjbv B0.b
 have jb0:(0:Int)<=(jb:Int):=by omega
 have jb1:(jb:Int)<(nv:Int):=by omega
 have Vjb:=R.r jb hjbv
 have q0:W.cell? ⟨kq,0,none⟩=some (.int .i64 q):=(cell_blk B0.q _).trans rfl
 have q1:W.cell? ⟨kq,1,none⟩=some (.int .i64 n):=(cell_blk B0.q _).trans rfl
 have HC:=ref_add (w:=W.drew) ca cb hja hjb Vja Vjb hq.2 hn.2
 have hbW:=B0.b
 clear R B0 hja hjb Vja Vjb
 go_enter Tryz.func69,Tryz.ntmps69
 go_wp2_with fail
 rw [<-hW]
 simp only [<-hkq]
 replace hkq:=Lib.hid hkq
 clear hW
 go_still_tail 11,(by kernel_rfl)
 go_wp2_with (first|(go_at_call 96;refine HC.mono ?_;rintro e w2 ⟨v,rfl,hown,hb2⟩;replace hb2:=undrew hb2))
 exact bodyPost_ret (v:=v) (by simp [results,Tryz.results69,go_sem]) rfl ⟨_,rfl,own_lower hown hbW.size,hbW.trans (lower_below hb2 hbW.size)⟩
theorem step_sub {w:World}{q:Int}{n nv:Nat}{V:Nat->Nat->Int}{ad:Addr}(cap:Nat)(R:Rows w ad nv n q V)(hq:17<=q/\q<=8380417)(hn:4<=n/\n<=256)(hv:nv<=12)(d:Int)(x6 x7:Value){ja jb:Nat}(hjav:ja<nv)(hjbv:jb<nv)(c k:Int):
  Calls Tryz.prog 69 #[.agg #[.int .i64 q,.int .i64 n],.agg #[.int .i64 4,.int .i64 d,.int .i64 ja,.int .i64 jb,.int .i64 c,.int .i64 k,x6,x7],.slice (some ad) nv cap] w fun e w'=>∃ v,e= .returned v/\w'.ownsRow w.heap.size 3 1 v n (vecV n (fun j=>(V ja j+q - V jb j) % q))/\Below w.heap.size w w':=by
 obtain⟨W,hW⟩:∃ W,W=(w.alloc (.cells #[.int .i64 q,.int .i64 n] 23)).alloc (.cells #[.int .i64 4,.int .i64 d,.int .i64 ja,.int .i64 jb,.int .i64 c,.int .i64 k,x6,x7] 66):=⟨_,rfl⟩
 obtain⟨kq,hkq⟩:∃ kq,kq=w.heap.size:=⟨_,rfl⟩
 have B0:StB w W kq (kq+1) q n #[.int .i64 4,.int .i64 d,.int .i64 ja,.int .i64 jb,.int .i64 c,.int .i64 k,x6,x7]:=by rw [hW,hkq];exact⟨alloc_blk _ (heap_alloc_new w _),alloc_at _ _ _,alloc_two w _ _⟩
 have s0:W.cell? ⟨kq+1,0,none⟩=some (.int .i64 4):=(cell_blk B0.s _).trans rfl
 have s2:W.cell? ⟨kq+1,2,none⟩=some (.int .i64 ja):=(cell_blk B0.s _).trans rfl
 have s3:W.cell? ⟨kq+1,3,none⟩=some (.int .i64 jb):=(cell_blk B0.s _).trans rfl
 obtain⟨A,ca,rja,hja⟩:=R.vec hjav B0.b
 have ja0:(0:Int)<=(ja:Int):=by omega
 have ja1:(ja:Int)<(nv:Int):=by omega
 have Vja:=R.r ja hjav
 obtain⟨B,cb,rjb,hjb⟩:=R.vec hjbv B0.b
 have jb0:(0:Int)<=(jb:Int):=by omega
 have jb1:(jb:Int)<(nv:Int):=by omega
 have Vjb:=R.r jb hjbv
 have q0:W.cell? ⟨kq,0,none⟩=some (.int .i64 q):=(cell_blk B0.q _).trans rfl
 have q1:W.cell? ⟨kq,1,none⟩=some (.int .i64 n):=(cell_blk B0.q _).trans rfl
 have HC:=ref_sub (w:=W.drew) ca cb hja hjb Vja Vjb hq.2 hn.2
 have hbW:=B0.b
 clear R B0 hja hjb Vja Vjb
 go_enter Tryz.func69,Tryz.ntmps69
 go_wp2_with fail
 rw [<-hW]
 simp only [<-hkq]
 replace hkq:=Lib.hid hkq
 clear hW
 go_still_tail 11,(by kernel_rfl)
 go_wp2_with (first|(go_at_call 97;refine HC.mono ?_;rintro e w2 ⟨v,rfl,hown,hb2⟩;replace hb2:=undrew hb2))
 exact bodyPost_ret (v:=v) (by simp [results,Tryz.results69,go_sem]) rfl ⟨_,rfl,own_lower hown hbW.size,hbW.trans (lower_below hb2 hbW.size)⟩
theorem step_mul {w:World}{q:Int}{n nv:Nat}{V:Nat->Nat->Int}{ad:Addr}(cap:Nat)(R:Rows w ad nv n q V)(hq:17<=q/\q<=8380417)(hn:4<=n/\n<=256)(hv:nv<=12)(d:Int)(x6 x7:Value){ja jb:Nat}(hjav:ja<nv)(hjbv:jb<nv)(c k:Int):
  Calls Tryz.prog 69 #[.agg #[.int .i64 q,.int .i64 n],.agg #[.int .i64 5,.int .i64 d,.int .i64 ja,.int .i64 jb,.int .i64 c,.int .i64 k,x6,x7],.slice (some ad) nv cap] w fun e w'=>∃ v,e= .returned v/\w'.ownsRow w.heap.size 3 1 v n (vecV n (fun j=>V ja j * V jb j % q))/\Below w.heap.size w w':=by
 obtain⟨W,hW⟩:∃ W,W=(w.alloc (.cells #[.int .i64 q,.int .i64 n] 23)).alloc (.cells #[.int .i64 5,.int .i64 d,.int .i64 ja,.int .i64 jb,.int .i64 c,.int .i64 k,x6,x7] 66):=⟨_,rfl⟩
 obtain⟨kq,hkq⟩:∃ kq,kq=w.heap.size:=⟨_,rfl⟩
 have B0:StB w W kq (kq+1) q n #[.int .i64 5,.int .i64 d,.int .i64 ja,.int .i64 jb,.int .i64 c,.int .i64 k,x6,x7]:=by rw [hW,hkq];exact⟨alloc_blk _ (heap_alloc_new w _),alloc_at _ _ _,alloc_two w _ _⟩
 have s0:W.cell? ⟨kq+1,0,none⟩=some (.int .i64 5):=(cell_blk B0.s _).trans rfl
 have s2:W.cell? ⟨kq+1,2,none⟩=some (.int .i64 ja):=(cell_blk B0.s _).trans rfl
 have s3:W.cell? ⟨kq+1,3,none⟩=some (.int .i64 jb):=(cell_blk B0.s _).trans rfl
 obtain⟨A,ca,rja,hja⟩:=R.vec hjav B0.b
 have ja0:(0:Int)<=(ja:Int):=by omega
 have ja1:(ja:Int)<(nv:Int):=by omega
 have Vja:=R.r ja hjav
 obtain⟨B,cb,rjb,hjb⟩:=R.vec hjbv B0.b
 have jb0:(0:Int)<=(jb:Int):=by omega
 have jb1:(jb:Int)<(nv:Int):=by omega
 have Vjb:=R.r jb hjbv
 have q0:W.cell? ⟨kq,0,none⟩=some (.int .i64 q):=(cell_blk B0.q _).trans rfl
 have q1:W.cell? ⟨kq,1,none⟩=some (.int .i64 n):=(cell_blk B0.q _).trans rfl
 have HC:=ref_point (w:=W.drew) ca cb hja hjb Vja Vjb hq.2 hn.2
 have hbW:=B0.b
 clear R B0 hja hjb Vja Vjb
 go_enter Tryz.func69,Tryz.ntmps69
 go_wp2_with fail
 rw [<-hW]
 simp only [<-hkq]
 replace hkq:=Lib.hid hkq
 clear hW
 go_still_tail 11,(by kernel_rfl)
 go_wp2_with (first|(go_at_call 98;refine HC.mono ?_;rintro e w2 ⟨v,rfl,hown,hb2⟩;replace hb2:=undrew hb2))
 exact bodyPost_ret (v:=v) (by simp [results,Tryz.results69,go_sem]) rfl ⟨_,rfl,own_lower hown hbW.size,hbW.trans (lower_below hb2 hbW.size)⟩
theorem step_conv {w:World}{q:Int}{n nv:Nat}{V:Nat->Nat->Int}{ad:Addr}(cap:Nat)(R:Rows w ad nv n q V)(hq:17<=q/\q<=8380417)(hn:4<=n/\n<=256)(hv:nv<=12)(d:Int)(x6 x7:Value){ja jb:Nat}(hjav:ja<nv)(hjbv:jb<nv)(c k:Int):
  Calls Tryz.prog 69 #[.agg #[.int .i64 q,.int .i64 n],.agg #[.int .i64 7,.int .i64 d,.int .i64 ja,.int .i64 jb,.int .i64 c,.int .i64 k,x6,x7],.slice (some ad) nv cap] w fun e w'=>∃ v,e= .returned v/\w'.ownsRow w.heap.size 3 1 v n (vecV n (fun j=>Al.csum (V ja) (V jb) n j n % q))/\Below w.heap.size w w':=by
 obtain⟨W,hW⟩:∃ W,W=(w.alloc (.cells #[.int .i64 q,.int .i64 n] 23)).alloc (.cells #[.int .i64 7,.int .i64 d,.int .i64 ja,.int .i64 jb,.int .i64 c,.int .i64 k,x6,x7] 66):=⟨_,rfl⟩
 obtain⟨kq,hkq⟩:∃ kq,kq=w.heap.size:=⟨_,rfl⟩
 have B0:StB w W kq (kq+1) q n #[.int .i64 7,.int .i64 d,.int .i64 ja,.int .i64 jb,.int .i64 c,.int .i64 k,x6,x7]:=by rw [hW,hkq];exact⟨alloc_blk _ (heap_alloc_new w _),alloc_at _ _ _,alloc_two w _ _⟩
 have s0:W.cell? ⟨kq+1,0,none⟩=some (.int .i64 7):=(cell_blk B0.s _).trans rfl
 have s2:W.cell? ⟨kq+1,2,none⟩=some (.int .i64 ja):=(cell_blk B0.s _).trans rfl
 have s3:W.cell? ⟨kq+1,3,none⟩=some (.int .i64 jb):=(cell_blk B0.s _).trans rfl
 obtain⟨A,ca,rja,hja⟩:=R.vec hjav B0.b
 have ja0:(0:Int)<=(ja:Int):=by omega
 have ja1:(ja:Int)<(nv:Int):=by omega
 have Vja:=R.r ja hjav
 obtain⟨B,cb,rjb,hjb⟩:=R.vec hjbv B0.b
 have jb0:(0:Int)<=(jb:Int):=by omega
 have jb1:(jb:Int)<(nv:Int):=by omega
 have Vjb:=R.r jb hjbv
 have q0:W.cell? ⟨kq,0,none⟩=some (.int .i64 q):=(cell_blk B0.q _).trans rfl
 have q1:W.cell? ⟨kq,1,none⟩=some (.int .i64 n):=(cell_blk B0.q _).trans rfl
 have HC:=ref_conv (w:=W.drew) ca cb hja hjb Vja Vjb hq hn.2
 have hbW:=B0.b
 clear R B0 hja hjb Vja Vjb
 go_enter Tryz.func69,Tryz.ntmps69
 go_wp2_with fail
 rw [<-hW]
 simp only [<-hkq]
 replace hkq:=Lib.hid hkq
 clear hW
 go_still_tail 11,(by kernel_rfl)
 go_wp2_with (first|(go_at_call 100;refine HC.mono ?_;rintro e w2 ⟨v,rfl,hown,hb2⟩;replace hb2:=undrew hb2))
 exact bodyPost_ret (v:=v) (by simp [results,Tryz.results69,go_sem]) rfl ⟨_,rfl,own_lower hown hbW.size,hbW.trans (lower_below hb2 hbW.size)⟩
theorem step_scale {w:World}{q:Int}{n nv:Nat}{V:Nat->Nat->Int}{ad:Addr}(cap:Nat)(R:Rows w ad nv n q V)(hq:17<=q/\q<=8380417)(hn:4<=n/\n<=256)(hv:nv<=12)(d:Int)(x6 x7:Value){ja:Nat}(hjav:ja<nv)(b c:Int){k:Int}(hk:0<=k/\k<q):
  Calls Tryz.prog 69 #[.agg #[.int .i64 q,.int .i64 n],.agg #[.int .i64 6,.int .i64 d,.int .i64 ja,.int .i64 b,.int .i64 c,.int .i64 k,x6,x7],.slice (some ad) nv cap] w fun e w'=>∃ v,e= .returned v/\w'.ownsRow w.heap.size 3 1 v n (vecV n (fun j=>V ja j * k % q))/\Below w.heap.size w w':=by
 obtain⟨W,hW⟩:∃ W,W=(w.alloc (.cells #[.int .i64 q,.int .i64 n] 23)).alloc (.cells #[.int .i64 6,.int .i64 d,.int .i64 ja,.int .i64 b,.int .i64 c,.int .i64 k,x6,x7] 66):=⟨_,rfl⟩
 obtain⟨kq,hkq⟩:∃ kq,kq=w.heap.size:=⟨_,rfl⟩
 have B0:StB w W kq (kq+1) q n #[.int .i64 6,.int .i64 d,.int .i64 ja,.int .i64 b,.int .i64 c,.int .i64 k,x6,x7]:=by rw [hW,hkq];exact⟨alloc_blk _ (heap_alloc_new w _),alloc_at _ _ _,alloc_two w _ _⟩
 have s0:W.cell? ⟨kq+1,0,none⟩=some (.int .i64 6):=(cell_blk B0.s _).trans rfl
 have s2:W.cell? ⟨kq+1,2,none⟩=some (.int .i64 ja):=(cell_blk B0.s _).trans rfl
 have s5:W.cell? ⟨kq+1,5,none⟩=some (.int .i64 k):=(cell_blk B0.s _).trans rfl
 obtain⟨A,ca,rja,hja⟩:=R.vec hjav B0.b
 have ja0:(0:Int)<=(ja:Int):=by omega
 have ja1:(ja:Int)<(nv:Int):=by omega
 have Vja:=R.r ja hjav
 have q0:W.cell? ⟨kq,0,none⟩=some (.int .i64 q):=(cell_blk B0.q _).trans rfl
 have q1:W.cell? ⟨kq,1,none⟩=some (.int .i64 n):=(cell_blk B0.q _).trans rfl
 have HC:=ref_scale (w:=W.drew) ca hja Vja hq hn.2 hk
 have hbW:=B0.b
 clear R B0 hja Vja
 go_enter Tryz.func69,Tryz.ntmps69
 go_wp2_with fail
 rw [<-hW]
 simp only [<-hkq]
 replace hkq:=Lib.hid hkq
 clear hW
 go_still_tail 8,(by kernel_rfl)
 go_wp2_with (first|(go_at_call 99;refine HC.mono ?_;rintro e w2 ⟨v,rfl,hown,hb2⟩;replace hb2:=undrew hb2))
 exact bodyPost_ret (v:=v) (by simp [results,Tryz.results69,go_sem]) rfl ⟨_,rfl,own_lower hown hbW.size,hbW.trans (lower_below hb2 hbW.size)⟩
theorem step_down {w:World}{q:Int}{n nv:Nat}{V:Nat->Nat->Int}{ad:Addr}(cap:Nat)(R:Rows w ad nv n q V)(hq:17<=q/\q<=8380417)(hn:4<=n/\n<=256)(hv:nv<=12)(d:Int)(x6 x7:Value){ja:Nat}(hjav:ja<nv)(b c:Int){K:Nat}(hK:1<=K/\K<=22):
  Calls Tryz.prog 69 #[.agg #[.int .i64 q,.int .i64 n],.agg #[.int .i64 8,.int .i64 d,.int .i64 ja,.int .i64 b,.int .i64 c,.int .i64 K,x6,x7],.slice (some ad) nv cap] w fun e w'=>∃ v,e= .returned v/\w'.ownsRow w.heap.size 3 1 v n (vecV n (fun j=>(V ja j * 2 ^ K+(q - 1) / 2) / q % 2 ^ K))/\Below w.heap.size w w':=by
 obtain⟨W,hW⟩:∃ W,W=(w.alloc (.cells #[.int .i64 q,.int .i64 n] 23)).alloc (.cells #[.int .i64 8,.int .i64 d,.int .i64 ja,.int .i64 b,.int .i64 c,.int .i64 K,x6,x7] 66):=⟨_,rfl⟩
 obtain⟨kq,hkq⟩:∃ kq,kq=w.heap.size:=⟨_,rfl⟩
 have B0:StB w W kq (kq+1) q n #[.int .i64 8,.int .i64 d,.int .i64 ja,.int .i64 b,.int .i64 c,.int .i64 K,x6,x7]:=by rw [hW,hkq];exact⟨alloc_blk _ (heap_alloc_new w _),alloc_at _ _ _,alloc_two w _ _⟩
 have s0:W.cell? ⟨kq+1,0,none⟩=some (.int .i64 8):=(cell_blk B0.s _).trans rfl
 have s2:W.cell? ⟨kq+1,2,none⟩=some (.int .i64 ja):=(cell_blk B0.s _).trans rfl
 have s5:W.cell? ⟨kq+1,5,none⟩=some (.int .i64 K):=(cell_blk B0.s _).trans rfl
 obtain⟨A,ca,rja,hja⟩:=R.vec hjav B0.b
 have ja0:(0:Int)<=(ja:Int):=by omega
 have ja1:(ja:Int)<(nv:Int):=by omega
 have Vja:=R.r ja hjav
 have q0:W.cell? ⟨kq,0,none⟩=some (.int .i64 q):=(cell_blk B0.q _).trans rfl
 have q1:W.cell? ⟨kq,1,none⟩=some (.int .i64 n):=(cell_blk B0.q _).trans rfl
 have HC:=ref_down (w:=W.drew) ca hja Vja hq hn.2 hK
 have hbW:=B0.b
 clear R B0 hja Vja
 go_enter Tryz.func69,Tryz.ntmps69
 go_wp2_with fail
 rw [<-hW]
 simp only [<-hkq]
 replace hkq:=Lib.hid hkq
 clear hW
 go_still_tail 8,(by kernel_rfl)
 go_wp2_with (first|(go_at_call 101;refine HC.mono ?_;rintro e w2 ⟨v,rfl,hown,hb2⟩;replace hb2:=undrew hb2))
 exact bodyPost_ret (v:=v) (by simp [results,Tryz.results69,go_sem]) rfl ⟨_,rfl,own_lower hown hbW.size,hbW.trans (lower_below hb2 hbW.size)⟩
theorem step_copy {w:World}{q:Int}{n nv:Nat}{V:Nat->Nat->Int}{ad:Addr}(cap:Nat)(R:Rows w ad nv n q V)(hq:17<=q/\q<=8380417)(hn:4<=n/\n<=256)(hv:nv<=12)(d:Int)(x6 x7:Value){ja:Nat}(hjav:ja<nv)(b c:Int)(k:Int):
  Calls Tryz.prog 69 #[.agg #[.int .i64 q,.int .i64 n],.agg #[.int .i64 2,.int .i64 d,.int .i64 ja,.int .i64 b,.int .i64 c,.int .i64 k,x6,x7],.slice (some ad) nv cap] w fun e w'=>∃ v,e= .returned v/\w'.ownsRow w.heap.size 3 1 v n (vecV n (V ja))/\Below w.heap.size w w':=by
 obtain⟨W,hW⟩:∃ W,W=(w.alloc (.cells #[.int .i64 q,.int .i64 n] 23)).alloc (.cells #[.int .i64 2,.int .i64 d,.int .i64 ja,.int .i64 b,.int .i64 c,.int .i64 k,x6,x7] 66):=⟨_,rfl⟩
 obtain⟨kq,hkq⟩:∃ kq,kq=w.heap.size:=⟨_,rfl⟩
 have B0:StB w W kq (kq+1) q n #[.int .i64 2,.int .i64 d,.int .i64 ja,.int .i64 b,.int .i64 c,.int .i64 k,x6,x7]:=by rw [hW,hkq];exact⟨alloc_blk _ (heap_alloc_new w _),alloc_at _ _ _,alloc_two w _ _⟩
 have s0:W.cell? ⟨kq+1,0,none⟩=some (.int .i64 2):=(cell_blk B0.s _).trans rfl
 have s2:W.cell? ⟨kq+1,2,none⟩=some (.int .i64 ja):=(cell_blk B0.s _).trans rfl
 have s5:W.cell? ⟨kq+1,5,none⟩=some (.int .i64 k):=(cell_blk B0.s _).trans rfl
 obtain⟨A,ca,rja,hja⟩:=R.vec hjav B0.b
 have ja0:(0:Int)<=(ja:Int):=by omega
 have ja1:(ja:Int)<(nv:Int):=by omega
 have Vja:=R.r ja hjav
 have q0:W.cell? ⟨kq,0,none⟩=some (.int .i64 q):=(cell_blk B0.q _).trans rfl
 have q1:W.cell? ⟨kq,1,none⟩=some (.int .i64 n):=(cell_blk B0.q _).trans rfl
 have HC:=ref_ints (w:=W) ca hja hn.2
 have hbW:=B0.b
 clear R B0 hja Vja
 go_enter Tryz.func69,Tryz.ntmps69
 go_upto_region 1 with (fail)
 rw [<-hW]
 simp only [<-hkq]
 replace hkq:=Lib.hid hkq
 clear hW
 go_wp2_with (first|(go_at_call 34;refine HC.mono ?_;rintro e w2 ⟨v,rfl,hown,hb2⟩))
 exact bodyPost_ret (v:=v) (by simp [results,Tryz.results69,go_sem]) rfl ⟨_,rfl,own_lower hown hbW.size,hbW.trans (lower_below hb2 hbW.size)⟩
theorem step_show {w:World}{q:Int}{n nv:Nat}{V:Nat->Nat->Int}{ad:Addr}(cap:Nat)(R:Rows w ad nv n q V)(hq:17<=q/\q<=8380417)(hn:4<=n/\n<=256)(hv:nv<=12)(d:Int)(x6 x7:Value){ja:Nat}(hjav:ja<nv)(b c:Int)(k:Int):
  Calls Tryz.prog 69 #[.agg #[.int .i64 q,.int .i64 n],.agg #[.int .i64 12,.int .i64 d,.int .i64 ja,.int .i64 b,.int .i64 c,.int .i64 k,x6,x7],.slice (some ad) nv cap] w fun e w'=>∃ v,e= .returned v/\w'.ownsRow w.heap.size 3 1 v n (vecV n (V ja))/\Below w.heap.size w w':=by
 obtain⟨W,hW⟩:∃ W,W=(w.alloc (.cells #[.int .i64 q,.int .i64 n] 23)).alloc (.cells #[.int .i64 12,.int .i64 d,.int .i64 ja,.int .i64 b,.int .i64 c,.int .i64 k,x6,x7] 66):=⟨_,rfl⟩
 obtain⟨kq,hkq⟩:∃ kq,kq=w.heap.size:=⟨_,rfl⟩
 have B0:StB w W kq (kq+1) q n #[.int .i64 12,.int .i64 d,.int .i64 ja,.int .i64 b,.int .i64 c,.int .i64 k,x6,x7]:=by rw [hW,hkq];exact⟨alloc_blk _ (heap_alloc_new w _),alloc_at _ _ _,alloc_two w _ _⟩
 have s0:W.cell? ⟨kq+1,0,none⟩=some (.int .i64 12):=(cell_blk B0.s _).trans rfl
 have s2:W.cell? ⟨kq+1,2,none⟩=some (.int .i64 ja):=(cell_blk B0.s _).trans rfl
 have s5:W.cell? ⟨kq+1,5,none⟩=some (.int .i64 k):=(cell_blk B0.s _).trans rfl
 obtain⟨A,ca,rja,hja⟩:=R.vec hjav B0.b
 have ja0:(0:Int)<=(ja:Int):=by omega
 have ja1:(ja:Int)<(nv:Int):=by omega
 have Vja:=R.r ja hjav
 have q0:W.cell? ⟨kq,0,none⟩=some (.int .i64 q):=(cell_blk B0.q _).trans rfl
 have q1:W.cell? ⟨kq,1,none⟩=some (.int .i64 n):=(cell_blk B0.q _).trans rfl
 have HC:=ref_ints (w:=W) ca hja hn.2
 have hbW:=B0.b
 clear R B0 hja Vja
 go_enter Tryz.func69,Tryz.ntmps69
 go_upto_region 1 with (fail)
 rw [<-hW]
 simp only [<-hkq]
 replace hkq:=Lib.hid hkq
 clear hW
 go_wp2_with (first|(go_at_call 34;refine HC.mono ?_;rintro e w2 ⟨v,rfl,hown,hb2⟩))
 exact bodyPost_ret (v:=v) (by simp [results,Tryz.results69,go_sem]) rfl ⟨_,rfl,own_lower hown hbW.size,hbW.trans (lower_below hb2 hbW.size)⟩
theorem nacc_at {g:Nat->Bool}:∀ {n:Nat},Al.nacc g n=1->∀ j,j<n->g j=true
 |0,_,j,hj=>by omega
 |n+1,h,j,hj=>by
  unfold Al.nacc at h
  split at h
  ·rename_i hg
   by_cases e:j=n
   ·rw [e];exact hg
   ·exact nacc_at h j (by omega)
  ·cases h
theorem step_expand {w:World}{q:Int}{n nv:Nat}{V:Nat->Nat->Int}{ad:Addr}(cap:Nat)(R:Rows w ad nv n q V)(hq:17<=q/\q<=8380417)(hn:4<=n/\n<=256)(hv:nv<=12)(d:Int)(x6 x7:Value){ja:Nat}(hjav:ja<nv)(b c:Int){K:Nat}(hK:1<=K/\K<=22):
  Calls Tryz.prog 69 #[.agg #[.int .i64 q,.int .i64 n],.agg #[.int .i64 9,.int .i64 d,.int .i64 ja,.int .i64 b,.int .i64 c,.int .i64 K,x6,x7],.slice (some ad) nv cap] w fun e w'=>∃ v,e= .returned v/\w'.ownsRow w.heap.size 3 1 v n (vecV n (fun j=>(q * (V ja j % 2 ^ K)+2 ^ (K - 1)) / 2 ^ K))/\Below w.heap.size w w':=by
 obtain⟨W,hW⟩:∃ W,W=(w.alloc (.cells #[.int .i64 q,.int .i64 n] 23)).alloc (.cells #[.int .i64 9,.int .i64 d,.int .i64 ja,.int .i64 b,.int .i64 c,.int .i64 K,x6,x7] 66):=⟨_,rfl⟩
 obtain⟨kq,hkq⟩:∃ kq,kq=w.heap.size:=⟨_,rfl⟩
 have B0:StB w W kq (kq+1) q n #[.int .i64 9,.int .i64 d,.int .i64 ja,.int .i64 b,.int .i64 c,.int .i64 K,x6,x7]:=by rw [hW,hkq];exact⟨alloc_blk _ (heap_alloc_new w _),alloc_at _ _ _,alloc_two w _ _⟩
 have s0:W.cell? ⟨kq+1,0,none⟩=some (.int .i64 9):=(cell_blk B0.s _).trans rfl
 obtain⟨-, -,hp1,hp2⟩:=shl_lt (f:=0) (by omega) (by omega) hK.2
 have HH:Hid (W.ownsRow w.heap.size 3 1 (.slice none 0 0) 0 (vecV 0 (fun j=>V ja j % 2 ^ K))/\StB w W kq (kq+1) q n #[.int .i64 9,.int .i64 d,.int .i64 ja,.int .i64 b,.int .i64 c,.int .i64 K,x6,x7]):=Lib.hid ⟨World.ownsRow_nil _ _ _ _,B0⟩
 have RH:=Lib.hid R
 clear B0 R
 go_enter Tryz.func69,Tryz.ntmps69
 go_upto_region 1 with (fail)
 rw [<-hW]
 simp only [<-hkq]
 replace hkq:=Lib.hid hkq
 clear hW
 go_wp2_with fail
 go_loopg [7,8] (n+1) (fun gk v7 v8 w'=>∃ i:Nat,v8= .int .i64 i/\i+gk=n+1/\i<=n/\Hid (w'.ownsRow w.heap.size 3 1 v7 i (vecV i (fun j=>V ja j % 2 ^ K))/\StB w w' kq (kq+1) q n #[.int .i64 9,.int .i64 d,.int .i64 ja,.int .i64 b,.int .i64 c,.int .i64 K,x6,x7]))
 case atStart=>exact⟨0,rfl,by omega,by omega,HH⟩
 case round=>
  obtain⟨i,rfl,hg,hi2,HR⟩:=hrel
  obtain⟨hown,hB⟩:=show wr.ownsRow w.heap.size 3 1 u7 i (vecV i (fun j=>V ja j % 2 ^ K))/\StB w wr kq (kq+1) q n #[.int .i64 9,.int .i64 d,.int .i64 ja,.int .i64 b,.int .i64 c,.int .i64 K,x6,x7] from HR
  clear HH HR
  have R:=show Rows w ad nv n q V from RH
  have hR:=hB.b
  have q0:wr.cell? ⟨kq,0,none⟩=some (.int .i64 q):=(cell_blk hB.q _).trans rfl
  have q1:wr.cell? ⟨kq,1,none⟩=some (.int .i64 n):=(cell_blk hB.q _).trans rfl
  by_cases hil:i<n
  ·obtain⟨k1,rfl⟩:∃ k1,gk=k1+1:=⟨gk - 1,by omega⟩
   have i0:(0:Int)<=(i:Int):=by omega
   have i1:(i:Int)<(n:Int):=by omega
   have i2:decide ((i:Int)<(n:Int))=true:=decide_eq_true i1
   obtain⟨A,cA,Rja,hja⟩:=R.c ja hjav
   have Dja:=hja i hil
   have rja:=cell_since hR Rja
   have dja:=cell_since hR Dja
   obtain⟨vja0,vja1⟩:=R.r ja hjav i hil
   have ja0:(0:Int)<=(ja:Int):=by omega
   have ja1:(ja:Int)<(nv:Int):=by omega
   have s2:wr.cell? ⟨kq+1,2,none⟩=some (.int .i64 ja):=(cell_blk hB.s _).trans rfl
   have s5:wr.cell? ⟨kq+1,5,none⟩=some (.int .i64 K):=(cell_blk hB.s _).trans rfl
   have h7:IntKind.u64.wrap (K:Int)=K:=IntWalk.u64_in _ (by omega)
   have h6:K<64:=by omega
   have h9:IntKind.i64.wrap (1 * 2 ^ K)=2 ^ K:=by rw [Int.one_mul];exact IntWalk.i64_in _ (by omega)
   have hmin:min K 64=K:=by omega
   have h10:IntKind.i64.wrap (2 ^ K)=2 ^ K:=IntWalk.i64_in _ (by omega)
   have w2:Int.tmod (V ja i) (2 ^ K)=V ja i % 2 ^ K:=tmod_pos (by omega)
   have p0:¬((2:Int) ^ K=0):=by omega
   have K0:decide ((K:Int)<0)=false:=decide_eq_false (by omega)
   go_wp2_with fail
   go_region_held3 (fun w'=>w'.cell? ⟨kq+1,2,none⟩=some (.int .i64 ja)/\w'.cell? (ad.add ja)=some (.slice (some A) n cA)/\w'.cell? (A.add i)=some (.int .i64 (V ja i))/\w'.cell? ⟨kq+1,5,none⟩=some (.int .i64 K)) (refine⟨?_,?_,?_,?_⟩<;> first|assumption|(refine alloc_cell _ ?_;assumption)) (first
    |((refine step_int (by rfl) (.tmp 109) (.tmp 123) (by rfl) (x:=V ja i % 2 ^ K) (by rfl) hown hR (by rfl) (by omega) ?_);intro gg cap W1 hown1 hb1 hk1;have rja:=cell_since hb1 Rja;have dja:=cell_since hb1 Dja;have s0':=hk1 _ (by decide) _ _ hB.s;have s2:W1.cell? ⟨kq+1,2,none⟩=some (.int .i64 ja):=(cell_blk s0' _).trans rfl;have s5:W1.cell? ⟨kq+1,5,none⟩=some (.int .i64 K):=(cell_blk s0' _).trans rfl;clear s0';have HN:Hid (W1.ownsRow w.heap.size 3 1 (.slice (some ⟨gg,0,none⟩) (i+1) cap) (i+1) (vecV (i+1) (fun j=>V ja j % 2 ^ K))/\StB w W1 kq (kq+1) q n #[.int .i64 9,.int .i64 d,.int .i64 ja,.int .i64 b,.int .i64 c,.int .i64 K,x6,x7]):=Lib.hid ⟨by rw [vecV_succ];exact hown1,hB.keeps hb1 hk1⟩;clear hown1 hb1 hk1 hown hR hB))
   clear s2 s5 rja dja Rja Dja q0 q1 R hja
   go_wp2_with fail
   go_roundg k1
   case measure=>omega
   case rel=>exact⟨i+1,by simp,by omega,by omega,HN⟩
  ·have hie:i=n:=by omega
   have t1:decide ((i:Int)<(n:Int))=false:=by simp;omega
   rw [hie] at hown
   have s5:wr.cell? ⟨kq+1,5,none⟩=some (.int .i64 K):=(cell_blk hB.s _).trans rfl
   obtain⟨A,c,rfl,hV⟩:=own_vec (by omega) hown
   obtain⟨W3,hW3⟩:∃ W3,W3=wr:=⟨_,rfl⟩
   have HC:=ref_up (w:=wr) c hV (fun j hj=>⟨Int.emod_nonneg _ (by omega),Int.emod_lt_of_pos _ (by omega)⟩) hq hn.2 hK
   have p1:∀ j,(q * (V ja j % 2 ^ K)+2 ^ (K - 1)) / 2 ^ K=(q * (V ja j % 2 ^ K)+2 ^ (K - 1)) / 2 ^ K:=fun _=>rfl
   clear p1 R hB
   go_wp2_with (first|(go_at_call 102;refine HC.mono ?_;rintro e w2 ⟨v,rfl,hown2,hb2⟩))
   exact bodyPost_ret (v:=v) (by simp [results,Tryz.results69,go_sem]) rfl ⟨_,rfl,own_lower hown2 hR.size,hR.trans (lower_below hb2 hR.size)⟩
theorem step_pick {w:World}{q:Int}{n nv:Nat}{V:Nat->Nat->Int}{ad:Addr}(cap:Nat)(R:Rows w ad nv n q V)(hq:17<=q/\q<=8380417)(hn:4<=n/\n<=256)(hv:nv<=12)(d:Int)(x6 x7:Value){ja jb jc:Nat}(hjav:ja<nv)(hjbv:jb<nv)(hjcv:jc<nv)(k:Int):
  Calls Tryz.prog 69 #[.agg #[.int .i64 q,.int .i64 n],.agg #[.int .i64 10,.int .i64 d,.int .i64 ja,.int .i64 jb,.int .i64 jc,.int .i64 k,x6,x7],.slice (some ad) nv cap] w fun e w'=>∃ v,e= .returned v/\w'.ownsRow w.heap.size 3 1 v n (vecV n (fun j=>if V ja j % 2=1 then V jb j else V jc j))/\Below w.heap.size w w':=by
 obtain⟨W,hW⟩:∃ W,W=(w.alloc (.cells #[.int .i64 q,.int .i64 n] 23)).alloc (.cells #[.int .i64 10,.int .i64 d,.int .i64 ja,.int .i64 jb,.int .i64 jc,.int .i64 k,x6,x7] 66):=⟨_,rfl⟩
 obtain⟨kq,hkq⟩:∃ kq,kq=w.heap.size:=⟨_,rfl⟩
 have B0:StB w W kq (kq+1) q n #[.int .i64 10,.int .i64 d,.int .i64 ja,.int .i64 jb,.int .i64 jc,.int .i64 k,x6,x7]:=by rw [hW,hkq];exact⟨alloc_blk _ (heap_alloc_new w _),alloc_at _ _ _,alloc_two w _ _⟩
 have s0:W.cell? ⟨kq+1,0,none⟩=some (.int .i64 10):=(cell_blk B0.s _).trans rfl
 have HH:Hid (W.ownsRow w.heap.size 3 1 (.slice none 0 0) 0 (vecV 0 (fun j=>if V ja j % 2=1 then V jb j else V jc j))/\StB w W kq (kq+1) q n #[.int .i64 10,.int .i64 d,.int .i64 ja,.int .i64 jb,.int .i64 jc,.int .i64 k,x6,x7]):=Lib.hid ⟨World.ownsRow_nil _ _ _ _,B0⟩
 have RH:=Lib.hid R
 clear B0 R
 go_enter Tryz.func69,Tryz.ntmps69
 go_upto_region 1 with (fail)
 rw [<-hW]
 simp only [<-hkq]
 replace hkq:=Lib.hid hkq
 clear hW
 go_wp2_with fail
 go_loopg [9,10] (n+1) (fun gk v9 v10 w'=>∃ i:Nat,v10= .int .i64 i/\i+gk=n+1/\i<=n/\Hid (w'.ownsRow w.heap.size 3 1 v9 i (vecV i (fun j=>if V ja j % 2=1 then V jb j else V jc j))/\StB w w' kq (kq+1) q n #[.int .i64 10,.int .i64 d,.int .i64 ja,.int .i64 jb,.int .i64 jc,.int .i64 k,x6,x7]))
 case atStart=>exact⟨0,rfl,by omega,by omega,HH⟩
 case round=>
  obtain⟨i,rfl,hg,hi2,HR⟩:=hrel
  obtain⟨hown,hB⟩:=show wr.ownsRow w.heap.size 3 1 u9 i (vecV i (fun j=>if V ja j % 2=1 then V jb j else V jc j))/\StB w wr kq (kq+1) q n #[.int .i64 10,.int .i64 d,.int .i64 ja,.int .i64 jb,.int .i64 jc,.int .i64 k,x6,x7] from HR
  clear HH HR
  have R:=show Rows w ad nv n q V from RH
  have hR:=hB.b
  have q0:wr.cell? ⟨kq,0,none⟩=some (.int .i64 q):=(cell_blk hB.q _).trans rfl
  have q1:wr.cell? ⟨kq,1,none⟩=some (.int .i64 n):=(cell_blk hB.q _).trans rfl
  by_cases hil:i<n
  ·obtain⟨k1,rfl⟩:∃ k1,gk=k1+1:=⟨gk - 1,by omega⟩
   have i0:(0:Int)<=(i:Int):=by omega
   have i1:(i:Int)<(n:Int):=by omega
   have i2:decide ((i:Int)<(n:Int))=true:=decide_eq_true i1
   obtain⟨A,cA,Rja,hja⟩:=R.c ja hjav
   have Dja:=hja i hil
   have rja:=cell_since hR Rja
   have dja:=cell_since hR Dja
   obtain⟨vja0,vja1⟩:=R.r ja hjav i hil
   have ja0:(0:Int)<=(ja:Int):=by omega
   have ja1:(ja:Int)<(nv:Int):=by omega
   obtain⟨B,cB,Rjb,hjb⟩:=R.c jb hjbv
   have Djb:=hjb i hil
   have rjb:=cell_since hR Rjb
   have djb:=cell_since hR Djb
   obtain⟨vjb0,vjb1⟩:=R.r jb hjbv i hil
   have jb0:(0:Int)<=(jb:Int):=by omega
   have jb1:(jb:Int)<(nv:Int):=by omega
   obtain⟨C,cC,Rjc,hjc⟩:=R.c jc hjcv
   have Djc:=hjc i hil
   have rjc:=cell_since hR Rjc
   have djc:=cell_since hR Djc
   obtain⟨vjc0,vjc1⟩:=R.r jc hjcv i hil
   have jc0:(0:Int)<=(jc:Int):=by omega
   have jc1:(jc:Int)<(nv:Int):=by omega
   have s2:wr.cell? ⟨kq+1,2,none⟩=some (.int .i64 ja):=(cell_blk hB.s _).trans rfl
   have s3:wr.cell? ⟨kq+1,3,none⟩=some (.int .i64 jb):=(cell_blk hB.s _).trans rfl
   have s4:wr.cell? ⟨kq+1,4,none⟩=some (.int .i64 jc):=(cell_blk hB.s _).trans rfl
   clear R hja hjb hjc
   by_cases c1:V ja i % 2=1
   ·have e1:(V ja i % 2 == 1)=true:=by simp [c1]
    have hx:(if V ja i % 2=1 then V jb i else V jc i)=V jb i:=if_pos c1
    go_wp2_with (first
     |(at_builtin;(refine app_int rfl (.tmp 148) (.tmp 157) rfl (x:=V jb i) rfl hown hR rfl (by omega) ?_);intro v1 W1 hown1 hb1 hk1;have HN:Hid (W1.ownsRow w.heap.size 3 1 v1 (i+1) (vecV (i+1) (fun j=>if V ja j % 2=1 then V jb j else V jc j))/\StB w W1 kq (kq+1) q n #[.int .i64 10,.int .i64 d,.int .i64 ja,.int .i64 jb,.int .i64 jc,.int .i64 k,x6,x7]):=Lib.hid ⟨by rw [vecV_succ,hx];exact hown1,hB.keeps hb1 hk1⟩;clear hown1 hb1 hk1 hown hR hB))
    go_roundg k1
    case measure=>omega
    case rel=>exact⟨i+1,by simp,by omega,by omega,HN⟩
   ·have e1:(V ja i % 2 == 1)=false:=by simp [c1]
    have hx:(if V ja i % 2=1 then V jb i else V jc i)=V jc i:=if_neg c1
    go_wp2_with (first
     |(at_builtin;(refine app_int rfl (.tmp 159) (.tmp 168) rfl (x:=V jc i) rfl hown hR rfl (by omega) ?_);intro v1 W1 hown1 hb1 hk1;have HN:Hid (W1.ownsRow w.heap.size 3 1 v1 (i+1) (vecV (i+1) (fun j=>if V ja j % 2=1 then V jb j else V jc j))/\StB w W1 kq (kq+1) q n #[.int .i64 10,.int .i64 d,.int .i64 ja,.int .i64 jb,.int .i64 jc,.int .i64 k,x6,x7]):=Lib.hid ⟨by rw [vecV_succ,hx];exact hown1,hB.keeps hb1 hk1⟩;clear hown1 hb1 hk1 hown hR hB))
    go_roundg k1
    case measure=>omega
    case rel=>exact⟨i+1,by simp,by omega,by omega,HN⟩
  ·have hie:i=n:=by omega
   have t1:decide ((i:Int)<(n:Int))=false:=by simp;omega
   rw [hie] at hown
   have hb:=hB.b
   clear R hB
   go_wp2_with fail
   exact bodyPost_ret (v:=u9) (by simp [results,Tryz.results69,go_sem]) rfl ⟨_,rfl,hown,hb⟩
theorem step_zero {w:World}{q:Int}{n nv:Nat}{V:Nat->Nat->Int}{ad:Addr}(cap:Nat)(R:Rows w ad nv n q V)(hq:17<=q/\q<=8380417)(hn:4<=n/\n<=256)(hv:nv<=12)(d:Int)(x6 x7:Value)(a b c k:Int):
  Calls Tryz.prog 69 #[.agg #[.int .i64 q,.int .i64 n],.agg #[.int .i64 1,.int .i64 d,.int .i64 a,.int .i64 b,.int .i64 c,.int .i64 k,x6,x7],.slice (some ad) nv cap] w fun e w'=>∃ v,e= .returned v/\w'.ownsRow w.heap.size 3 1 v n (vecV n (fun _=>0))/\Below w.heap.size w w':=by
 obtain⟨W,hW⟩:∃ W,W=(w.alloc (.cells #[.int .i64 q,.int .i64 n] 23)).alloc (.cells #[.int .i64 1,.int .i64 d,.int .i64 a,.int .i64 b,.int .i64 c,.int .i64 k,x6,x7] 66):=⟨_,rfl⟩
 obtain⟨kq,hkq⟩:∃ kq,kq=w.heap.size:=⟨_,rfl⟩
 have B0:StB w W kq (kq+1) q n #[.int .i64 1,.int .i64 d,.int .i64 a,.int .i64 b,.int .i64 c,.int .i64 k,x6,x7]:=by rw [hW,hkq];exact⟨alloc_blk _ (heap_alloc_new w _),alloc_at _ _ _,alloc_two w _ _⟩
 obtain⟨j0,hj0,jz0,jz1,jz2⟩:=info_parts Tryz.infoInt
 clear R
 go_enter Tryz.func69,Tryz.ntmps69
 go_wp2_with (first|(at_make;refine wpList_make_full _ rfl _ _ 86 rfl w.heap.size 3 j0 (.int .i64 0) 1 Tryz.underlying86 hj0 jz0 jz1 .i64 .i64 _ _ n rfl rfl rfl rfl (by rw [jz2];omega) (by unfold maxLen;omega) (by have:=B0.b.size;rw [hW] at this;exact this) ?_;intro w1 hown1 hgrow1;rw [made_ints] at hown1;rw [<-hW] at hown1 hgrow1 ⊢;simp only [<-hkq];have hb1:=below_grown0 hgrow1;have B1:=B0.below hb1;obtain⟨g0,hg0⟩:∃ g0,g0=W.heap.size:=⟨_,rfl⟩;rw [<-hg0] at hown1 ⊢;replace hg0:=Lib.hid hg0;replace hkq:=Lib.hid hkq;clear hW B0 hgrow1))
 exact bodyPost_ret (v:= .slice (some ⟨g0,0,none⟩) n n) (by simp [results,Tryz.results69,go_sem]) rfl ⟨_,rfl,hown1,B1.b⟩
theorem step_norm {w:World}{q:Int}{n nv:Nat}{V:Nat->Nat->Int}{ad:Addr}(cap:Nat)(R:Rows w ad nv n q V)(hq:17<=q/\q<=8380417)(hn:4<=n/\n<=256)(hv:nv<=12)(d:Int)(x6 x7:Value){ja:Nat}(hjav:ja<nv)(b c:Int){k:Int}(hk:0<=k/\k<=q):
  Calls Tryz.prog 69 #[.agg #[.int .i64 q,.int .i64 n],.agg #[.int .i64 11,.int .i64 d,.int .i64 ja,.int .i64 b,.int .i64 c,.int .i64 k,x6,x7],.slice (some ad) nv cap] w fun e w'=>∃ v,e= .returned v/\w'.ownsRow w.heap.size 3 1 v n (vecV n (fun j=>if j=0 then Al.nacc (fun i=>decide (Al.mn q (V ja i)<k)) n else 0))/\Below w.heap.size w w':=by
 obtain⟨W,hW⟩:∃ W,W=(w.alloc (.cells #[.int .i64 q,.int .i64 n] 23)).alloc (.cells #[.int .i64 11,.int .i64 d,.int .i64 ja,.int .i64 b,.int .i64 c,.int .i64 k,x6,x7] 66):=⟨_,rfl⟩
 obtain⟨kq,hkq⟩:∃ kq,kq=w.heap.size:=⟨_,rfl⟩
 have B0:StB w W kq (kq+1) q n #[.int .i64 11,.int .i64 d,.int .i64 ja,.int .i64 b,.int .i64 c,.int .i64 k,x6,x7]:=by rw [hW,hkq];exact⟨alloc_blk _ (heap_alloc_new w _),alloc_at _ _ _,alloc_two w _ _⟩
 have s0:W.cell? ⟨kq+1,0,none⟩=some (.int .i64 11):=(cell_blk B0.s _).trans rfl
 obtain⟨j0,hj0,jz0,jz1,jz2⟩:=info_parts Tryz.infoInt
 have Vja:=R.r ja hjav
 obtain⟨m,hm⟩:∃ m,m=nmx q (V ja) n:=⟨_,rfl⟩
 have hm1:0<=m:=by have:=nmx_range n Vja;omega
 have hm2:m<=q:=by have:=(nmx_range n Vja).2 (by omega);omega
 have hx:(fun j=>if j=0 then (if m<k then 1 else 0) else 0)=(fun j=>if j=0 then Al.nacc (fun i=>decide (Al.mn q (V ja i)<k)) n else 0):=by
  funext j
  by_cases e:j=0
  ·rw [if_pos e,if_pos e]
   have h1:=nmx_near (K:=k) n Vja
   rw [<-hm] at h1
   have h2:=Al.nacc_01 (fun i=>decide (Al.mn q (V ja i)<k)) n
   split
   ·rename_i h;exact (h1.1 h).2.symm
   ·rename_i h;rcases h2 with h2|h2
    ·exact h2.symm
    ·exact absurd (h1.2 ⟨by have h3:=nacc_at h2 0 (by omega);have h4:=Vja 0 (by omega);simp only [decide_eq_true_eq] at h3;unfold Al.mn at h3;split at h3<;> omega,h2⟩) h
  ·rw [if_neg e,if_neg e]
 rw [<-hx]
 have HM:=Lib.hid hm
 clear hx hm Vja
 have RH:=Lib.hid R
 clear R
 go_enter Tryz.func69,Tryz.ntmps69
 go_wp2_with (first|(at_make;refine wpList_make_full _ rfl _ _ 86 rfl w.heap.size 3 j0 (.int .i64 0) 1 Tryz.underlying86 hj0 jz0 jz1 .i64 .i64 _ _ n rfl rfl rfl rfl (by rw [jz2];omega) (by unfold maxLen;omega) (by have:=B0.b.size;rw [hW] at this;exact this) ?_;intro w1 hown1 hgrow1;rw [made_ints] at hown1;rw [<-hW] at hown1 hgrow1 ⊢;simp only [<-hkq];have hb1:=below_grown0 hgrow1;have B1:=B0.below hb1;obtain⟨g0,hg0⟩:∃ g0,g0=W.heap.size:=⟨_,rfl⟩;rw [<-hg0] at hown1 ⊢;replace hg0:=Lib.hid hg0;replace hkq:=Lib.hid hkq;clear hW B0 hgrow1))
 have R:=show Rows w ad nv n q V from RH
 obtain⟨A,ca,rja,hja⟩:=R.vec hjav B1.b
 have ja0:(0:Int)<=(ja:Int):=by omega
 have ja1:(ja:Int)<(nv:Int):=by omega
 have Vja:=R.r ja hjav
 have q0:w1.cell? ⟨kq,0,none⟩=some (.int .i64 q):=(cell_blk B1.q _).trans rfl
 have q1:w1.cell? ⟨kq,1,none⟩=some (.int .i64 n):=(cell_blk B1.q _).trans rfl
 have s2:w1.cell? ⟨kq+1,2,none⟩=some (.int .i64 ja):=(cell_blk B1.s _).trans rfl
 have s5:w1.cell? ⟨kq+1,5,none⟩=some (.int .i64 k):=(cell_blk B1.s _).trans rfl
 have HC:=ref_norm (w:=w1.drew) ca hja Vja hq hn.2
 rw [<-show m=_ from HM] at HC
 clear hja Vja R
 by_cases hc:m<k
 ·have t1:decide (m<k)=true:=decide_eq_true hc
  have hxx:vecV n (fun j=>if j=0 then (if m<k then 1 else 0) else 0)=vecV n (fun j=>if j=0 then 1 else 0):=by simp only [if_pos hc]
  replace hxx:=Lib.hid hxx
  go_wp2_with fail
  go_region_held3 (fun w'=>w'.cell? ⟨kq,0,none⟩=some (.int .i64 q)/\w'.cell? ⟨kq,1,none⟩=some (.int .i64 n)/\w'.cell? ⟨kq+1,2,none⟩=some (.int .i64 ja)/\w'.cell? (ad.add ja)=some (.slice (some A) n ca)/\w'.cell? ⟨kq+1,5,none⟩=some (.int .i64 k)) (refine⟨?_,?_,?_,?_,?_⟩<;> assumption) (first
   |(go_at_call 103;refine HC.mono ?_;rintro e w2 ⟨rfl,hb2⟩;replace hb2:=undrew hb2;have B2:=B1.below hb2;have q0:w2.cell? ⟨kq,0,none⟩=some (.int .i64 q):=(cell_blk B2.q _).trans rfl;have q1:w2.cell? ⟨kq,1,none⟩=some (.int .i64 n):=(cell_blk B2.q _).trans rfl;have s2:w2.cell? ⟨kq+1,2,none⟩=some (.int .i64 ja):=(cell_blk B2.s _).trans rfl;have s5:w2.cell? ⟨kq+1,5,none⟩=some (.int .i64 k):=(cell_blk B2.s _).trans rfl;have rja:=cell_since hb2 rja;have own2:=own_of hown1 fun k hk=>hb2.block k (hown1.lt k hk).2;clear hown1 B1 hb2))
  have o2:=(own2.stored 0 (.int .i64 1)).1
  obtain⟨u,e0⟩:∃ u,w2.cell? ⟨g0,0,none⟩=some u:=⟨_,(own2.cellAt 0 (by omega)).trans (List.getElem?_eq_getElem (by simp [vecV,vecN,intsV];omega))⟩
  have e1:=own2.frozenAt (j:=0)
  have hgb:w.heap.size<=g0:=(own2.lt g0 rfl).1
  have o3:(w2.setCell ⟨g0,0,none⟩ (.int .i64 1)).ownsRow w.heap.size 3 1 (.slice (some ⟨g0,0,none⟩) n n) n (vecV n (fun j=>if j=0 then 1 else 0)):=by
   rw [show vecV n (fun j=>if j=0 then (1:Int) else 0)=(vecV n (fun _=>0)).set 0 (.int .i64 1) from ?_]
   ·exact o2
   ·have:=vecV_set n 0 (fun j=>if j=0 then (1:Int) else 0) (by omega)
    rw [vecV_congr (n:=n) (f:=upTo _ 0) (g:=fun _=>0) (fun j _=>by unfold upTo;rw [if_neg (by omega)])] at this
    rw [show (if (0:Nat)=0 then (1:Int) else 0)=1 from rfl] at this
    rw [this]
    exact vecV_congr fun j _=>by unfold upTo;by_cases e:j=0<;> simp [e]
  have hb3:=below_set B2.b hgb (j:=0) (u:= .int .i64 1)
  have n0:(0:Int)<(n:Int):=by omega
  have O3:=Lib.hid o3
  have HB3:=Lib.hid hb3
  clear o2 own2 B2 o3 hb3
  go_wp2_with fail
  exact bodyPost_ret (v:= .slice (some ⟨g0,0,none⟩) n n) (by simp [results,Tryz.results69,go_sem]) rfl ⟨_,rfl,(by first|exact O3|(rw [show vecV n (fun j=>if j=0 then (if m<k then 1 else 0) else 0)=_ from hxx];exact O3)),HB3⟩
 ·have t1:decide (m<k)=false:=decide_eq_false hc
  have hxx:vecV n (fun j=>if j=0 then (if m<k then 1 else 0) else 0)=vecV n (fun _=>0):=by simp only [if_neg hc,ite_self]
  replace hxx:=Lib.hid hxx
  go_wp2_with fail
  go_region_held3 (fun w'=>w'.cell? ⟨kq,0,none⟩=some (.int .i64 q)/\w'.cell? ⟨kq,1,none⟩=some (.int .i64 n)/\w'.cell? ⟨kq+1,2,none⟩=some (.int .i64 ja)/\w'.cell? (ad.add ja)=some (.slice (some A) n ca)/\w'.cell? ⟨kq+1,5,none⟩=some (.int .i64 k)) (refine⟨?_,?_,?_,?_,?_⟩<;> assumption) (first
   |(go_at_call 103;refine HC.mono ?_;rintro e w2 ⟨rfl,hb2⟩;replace hb2:=undrew hb2;have B2:=B1.below hb2;have q0:w2.cell? ⟨kq,0,none⟩=some (.int .i64 q):=(cell_blk B2.q _).trans rfl;have q1:w2.cell? ⟨kq,1,none⟩=some (.int .i64 n):=(cell_blk B2.q _).trans rfl;have s2:w2.cell? ⟨kq+1,2,none⟩=some (.int .i64 ja):=(cell_blk B2.s _).trans rfl;have s5:w2.cell? ⟨kq+1,5,none⟩=some (.int .i64 k):=(cell_blk B2.s _).trans rfl;have rja:=cell_since hb2 rja;have own2:=own_of hown1 fun k hk=>hb2.block k (hown1.lt k hk).2;clear hown1 B1 hb2))
  have hb3:=B2.b
  clear B2
  go_wp2_with fail
  exact bodyPost_ret (v:= .slice (some ⟨g0,0,none⟩) n n) (by simp [results,Tryz.results69,go_sem]) rfl ⟨_,rfl,(by first|exact own2|(rw [show vecV n (fun j=>if j=0 then (if m<k then 1 else 0) else 0)=_ from hxx];exact own2)),hb3⟩
end Go.Proofs.YtkplfaionpplaaaGreatDoor
namespace Go.Proofs.YtkplfaionpplaaaGreatDoor.Al
section
variable {c:List Inst} {M:Int} {k pc:Nat} {regs mem:List Int} {leaks:List Leak} {steps:Int} {R:RRes}
theorem rrun_inside (h:rrun c [] M k pc regs mem leaks steps=R)(hc:R.code<=2):pc<c.length:=by
 rcases Nat.lt_or_ge pc c.length with hl|hl
 ·exact hl
 ·unfold rrun at h
  rw [if_pos (by omega)] at h
  rw [<-h] at hc
  simp at hc
theorem run_k (h:rrun c [] M k pc regs mem leaks steps=R)(hc:R.code<=2):∃ k',k=k'+1:=by
 have hl:=rrun_inside h hc
 cases k with
 |succ k=>exact⟨k,rfl⟩
 |zero=>
  unfold rrun at h
  rw [if_neg (by omega)] at h
  rw [<-h] at hc
  simp at hc
theorem run_step (h:rrun c [] M (k+1) pc regs mem leaks steps=R)(hl:pc<c.length)(i:Inst)(hi:i=c[pc]):
  (if i.op=15\/i.op=16 then
    if wrapU (gI regs i.a+wrapU i.k)>=M then ⟨3,mem,leaks++[⟨1,pc⟩]++[⟨3,sgn (wrapU (gI regs i.a+wrapU i.k))⟩],steps+1, -1⟩ else
    if i.op=15 then rrun c [] M k ((pc:Int)+1) (setI regs i.d (gI mem (wrapU (gI regs i.a+wrapU i.k)))) mem (leaks++[⟨1,pc⟩]++[⟨3,sgn (wrapU (gI regs i.a+wrapU i.k))⟩]) (steps+1)
    else rrun c [] M k ((pc:Int)+1) regs (setI mem (wrapU (gI regs i.a+wrapU i.k)) (gI regs i.b)) (leaks++[⟨1,pc⟩]++[⟨3,sgn (wrapU (gI regs i.a+wrapU i.k))⟩]) (steps+1)
   else if i.op=17 then rrun c [] M k i.k regs mem (leaks++[⟨1,pc⟩]) (steps+1)
   else if i.op=18\/i.op=19 then rrun c [] M k (if decide (decide (gI regs i.a=0)=decide (i.op=18))=true then i.k else (pc:Int)+1) regs mem (leaks++[⟨1,pc⟩]++[⟨2,if decide (decide (gI regs i.a=0)=decide (i.op=18))=true then 1 else 0⟩]) (steps+1)
   else if i.op=20 then ⟨i.k,mem,leaks++[⟨1,pc⟩],steps+1, -1⟩
   else rrun c [] M k ((pc:Int)+1) (setI regs i.d (wvalue i (gI regs i.a) (gI regs i.b) (gI regs i.c))) mem (leaks++[⟨1,pc⟩]) (steps+1))=R:=by
 unfold rrun at h
 rw [if_neg (by omega)] at h
 have e:c.getD (pc:Int).toNat default=i:=by simp [List.getD_eq_getElem?_getD,hl,hi]
 simp only [e] at h
 simpa using h
theorem run_ls (h:rrun c [] M (k+1) pc regs mem leaks steps=R)(hc:R.code<=2)(hl:pc<c.length){i:Inst}(hi:i=c[pc])(ho:i.op=15\/i.op=16)(hM:M<=65536):
  ∃ at_:Nat,wrapU (gI regs i.a+wrapU i.k)=at_/\(at_:Int)<M/\
   (i.op=15->rrun c [] M k (pc+1:Nat) (setI regs i.d (gI mem at_)) mem (leaks++[⟨1,pc⟩]++[⟨3,at_⟩]) (steps+1)=R)/\
   (i.op=16->rrun c [] M k (pc+1:Nat) regs (setI mem at_ (gI regs i.b)) (leaks++[⟨1,pc⟩]++[⟨3,at_⟩]) (steps+1)=R):=by
 have h:=run_step h hl i hi
 rw [if_pos ho] at h
 by_cases hm:wrapU (gI regs i.a+wrapU i.k)>=M
 ·rw [if_pos hm] at h;rw [<-h] at hc;simp at hc
 rw [if_neg hm] at h
 have h0:0<=wrapU (gI regs i.a+wrapU i.k):=by unfold wrapU;omega
 obtain⟨at_,ha⟩:=Int.eq_ofNat_of_zero_le h0
 rw [ha] at h hm
 have hs:sgn (at_:Int)=at_:=sgn_at (by omega)
 rw [hs] at h
 refine⟨at_,ha,by omega,fun ho=>?_,fun ho=>?_⟩
 ·rw [if_pos ho] at h;exact h
 ·rw [if_neg (by omega)] at h;exact h
theorem run_br (h:rrun c [] M (k+1) pc regs mem leaks steps=R)(hl:pc<c.length){i:Inst}(hi:i=c[pc])(ho:i.op=17):
  rrun c [] M k i.k regs mem (leaks++[⟨1,pc⟩]) (steps+1)=R:=by
 have h:=run_step h hl i hi
 rw [if_neg (by omega),if_pos ho] at h
 exact h
theorem run_bz (h:rrun c [] M (k+1) pc regs mem leaks steps=R)(hl:pc<c.length){i:Inst}(hi:i=c[pc])(ho:i.op=18\/i.op=19){goes:Bool}(hg:goes=decide (decide (gI regs i.a=0)=decide (i.op=18))):
  rrun c [] M k (if goes=true then i.k else ((pc+1:Nat):Int)) regs mem (leaks++[⟨1,pc⟩]++[⟨2,if goes=true then 1 else 0⟩]) (steps+1)=R:=by
 have h:=run_step h hl i hi
 rw [if_neg (by omega),if_neg (by omega),if_pos ho,<-hg] at h
 exact h
theorem run_halt (h:rrun c [] M (k+1) pc regs mem leaks steps=R)(hl:pc<c.length){i:Inst}(hi:i=c[pc])(ho:i.op=20):
  R=⟨i.k,mem,leaks++[⟨1,pc⟩],steps+1, -1⟩:=by
 have h:=run_step h hl i hi
 rw [if_neg (by omega),if_neg (by omega),if_neg (by omega),if_pos ho] at h
 exact h.symm
theorem run_val (h:rrun c [] M (k+1) pc regs mem leaks steps=R)(hl:pc<c.length){i:Inst}(hi:i=c[pc])(ho:1<=i.op/\i.op<=14):
  rrun c [] M k (pc+1:Nat) (setI regs i.d (wvalue i (gI regs i.a) (gI regs i.b) (gI regs i.c))) mem (leaks++[⟨1,pc⟩]) (steps+1)=R:=by
 have h:=run_step h hl i hi
 rw [if_neg (by omega),if_neg (by omega),if_neg (by omega),if_neg (by omega)] at h
 exact h
theorem wvalue_word {i:Inst}{a b c:Int}(ha:0<=a/\a<18446744073709551616)(hb:0<=b/\b<18446744073709551616)(hc:0<=c/\c<18446744073709551616):0<=wvalue i a b c/\wvalue i a b c<18446744073709551616:=by
 have hw:∀ n,0<=wrapU n/\wrapU n<18446744073709551616:=fun n=>by unfold wrapU;omega
 have hx:∀ n:Nat,n<2 ^ 64->0<=(n:Int)/\(n:Int)<18446744073709551616:=fun n h=>by omega
 unfold wvalue
 by_cases h1:i.op=1
 ·rw [if_pos h1];exact hw _
 rw [if_neg h1]
 by_cases h2:i.op=2
 ·rw [if_pos h2];exact ha
 rw [if_neg h2]
 by_cases h3:i.op=3
 ·rw [if_pos h3];exact hw _
 rw [if_neg h3]
 by_cases h4:i.op=4
 ·rw [if_pos h4];exact hw _
 rw [if_neg h4]
 by_cases h5:i.op=5
 ·rw [if_pos h5];exact hw _
 rw [if_neg h5]
 by_cases h6:i.op=6
 ·rw [if_pos h6]
  have p:0<=a * b:=Int.mul_nonneg ha.1 hb.1
  have p2:a * b<=18446744073709551615 * 18446744073709551615:=Int.mul_le_mul (by omega) (by omega) hb.1 (by omega)
  refine⟨Int.ediv_nonneg p (by omega),?_⟩
  have:=Int.ediv_le_ediv (show (0:Int)<18446744073709551616 by omega) p2
  omega
 rw [if_neg h6]
 by_cases h7:i.op=7
 ·rw [if_pos h7];exact hx _ (Nat.and_lt_two_pow _ (by omega))
 rw [if_neg h7]
 by_cases h8:i.op=8
 ·rw [if_pos h8];exact hx _ (Nat.or_lt_two_pow (by omega) (by omega))
 rw [if_neg h8]
 by_cases h9:i.op=9
 ·rw [if_pos h9];exact hx _ (Nat.xor_lt_two_pow (by omega) (by omega))
 rw [if_neg h9]
 by_cases h13:i.op=13
 ·rw [if_pos h13];split<;> omega
 rw [if_neg h13]
 by_cases h14:i.op=14
 ·rw [if_pos h14];split<;> assumption
 rw [if_neg h14]
 split
 ·by_cases h10:i.op=10
  ·rw [if_pos h10];exact hw _
  rw [if_neg h10]
  by_cases h11:i.op=11
  ·rw [if_pos h11]
   have hp:(0:Int)<2 ^ i.k.toNat:=Int.pow_pos (by omega)
   exact⟨Int.ediv_nonneg ha.1 (by omega),by have:=Int.ediv_le_self (2 ^ i.k.toNat) ha.1;omega⟩
  rw [if_neg h11]
  split
  ·exact hw _
  ·omega
 ·omega
theorem gI_word {l:List Int}(h:∀ x∈l,0<=x/\x<18446744073709551616)(i:Int):0<=gI l i/\gI l i<18446744073709551616:=by
 unfold gI
 rw [List.getD_eq_getElem?_getD]
 cases hx:l[i.toNat]? with
 |none=>simp
 |some x=>exact h x (List.mem_of_getElem? hx)
theorem setI_word {l:List Int}(h:∀ x∈l,0<=x/\x<18446744073709551616){i v:Int}(hv:0<=v/\v<18446744073709551616):∀ x∈setI l i v,0<=x/\x<18446744073709551616:=fun x hx=>by
 rcases List.mem_or_eq_of_mem_set hx with hx|rfl
 ·exact h x hx
 ·exact hv
end
theorem codes_ok {p:Prog}(hF:Fine p){len:Nat}(hlen:len=bodyP p.body+(genL (envOf p (bitsOf p.q)) 0 0 0 (bodyP p.body) p.body).length):
  (∀ i∈insts (progC (envOf p (bitsOf p.q)) p.body (outT len) (outG len p.body)),okI (progC (envOf p (bitsOf p.q)) p.body (outT len) (outG len p.body)).length i)/\
   (progC (envOf p (bitsOf p.q)) p.body (outT len) (outG len p.body)).length<=len+3:=by
 have hE:=env_ok hF
 have hg:=good_prog hF (bitsOf p.q)
 generalize hEE:envOf p (bitsOf p.q)=E at *
 have hlen2:len=bodyP p.body+(genL E (outT len) (outG len p.body) 0 (bodyP p.body) p.body).length:=by rw [hlen];congr 1;exact len_list E _ _ _ _ _ _ _
 have hln0:∀ T G,(progC E p.body T G).length=(bodyP p.body+(genL E T G 0 (bodyP p.body) p.body).length)+1+(if drawsL p.body then 1 else 0)+(if untilsL p.body then 1 else 0):=by
  intro T G
  unfold progC endC
  rw [List.length_append,List.length_append]
  have e1:(if p.body.isEmpty=true then [] else beginC E).length=bodyP p.body:=by unfold bodyP;split<;> simp [beginC]
  rw [e1]
  cases drawsL p.body<;> cases untilsL p.body<;> simp<;> omega
 have hln:=hln0 (outT len) (outG len p.body)
 rw [<-hlen2] at hln
 have hok:okC (progC E p.body (outT len) (outG len p.body)).length (progC E p.body (outT len) (outG len p.body)):=by
  refine ok_prog hE hg ?_ ?_
  ·rw [hln];unfold outT;omega
  ·rw [hln];unfold outG;omega
 refine⟨fun i hi=>?_,?_⟩
 ·unfold insts at hi
  obtain⟨x,hx,rfl⟩:=List.mem_map.1 hi
  exact hok x hx
 ·rw [hln]
  cases drawsL p.body<;> cases untilsL p.body<;> simp
def isWord (x:Int):Prop:=0<=x/\x<18446744073709551616
theorem setRow_words:∀ (l m:List Int) (a:Nat),(∀ x∈m,isWord x)->(∀ x∈l,isWord x)->∀ x∈setRow m a l,isWord x
 |[],m,a,hm,_=>hm
 |y :: l,m,a,hm,hl=>by
  unfold setRow
  refine setRow_words l _ _ (fun x hx=>?_) (fun x hx=>hl x (List.mem_cons_of_mem _ hx))
  rcases List.mem_or_eq_of_mem_set hx with hx|rfl
  ·exact hm x hx
  ·exact hl _ List.mem_cons_self
theorem setRows_words (p:Prog):∀ (ks:List Int) (ins:List (List Int)) (m:List Int),(∀ x∈m,isWord x)->(∀ a∈ins,∀ x∈a,isWord x)->∀ x∈setRows p m ks ins,isWord x
 |[],ins,m,hm,_=>by unfold setRows;exact hm
 |k :: ks,[],m,hm,_=>by unfold setRows;exact hm
 |k :: ks,a :: ins,m,hm,hi=>by
  unfold setRows
  exact setRows_words p ks ins _ (setRow_words a m _ hm (hi a List.mem_cons_self)) (fun b hb=>hi b (List.mem_cons_of_mem _ hb))
theorem memF_words {p:Prog}{ins:List (List Int)}{tape:List Int}{mem:Int}(hF:Fine p)(hi:InOk p ins tape)(ht:∀ x∈tape,0<=x/\x<4294967296):∀ x∈memF p mem ins tape,0<=x/\x<18446744073709551616:=by
 have hq:=hF.q
 have htl:=hi.tape
 refine setRow_words tape _ _ (setRows_words p _ _ _ ?_ ?_) ?_
 ·intro x hx
  rcases List.mem_or_eq_of_mem_set hx with hx|rfl
  ·rw [(List.mem_replicate.1 hx).2];unfold isWord;omega
  ·unfold isWord;omega
 ·intro a ha x hx
  have:=(hi.vec a ha).2 x hx
  unfold isWord;omega
 ·intro x hx
  have:=ht x hx
  unfold isWord;omega
end Go.Proofs.YtkplfaionpplaaaGreatDoor.Al
