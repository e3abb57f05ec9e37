/- Part 9: B13, B14, B15, B16, B17, B18, P26. -/
import Derived.Test.YtkplfaionpplaaaGreatDoorK8
set_option maxRecDepth 100000
set_option maxHeartbeats 6400000
set_option linter.unusedVariables false
set_option linter.unusedSimpArgs false
namespace Go.Proofs.YtkplfaionpplaaaGreatDoor
open Go.RowKit Go.Proofs.YtkplfaionpplaaaGreatDoorW.PrintLast
@[simp] theorem convB_length (E:Al.Env) (p a b:Nat):(Al.convB E p a b).length=31:=rfl
@[simp] theorem conv2B_length (E:Al.Env) (d:Nat):(Al.conv2B E d).length=2:=rfl
theorem conv2_body {C:MkC}{E:Al.Env}(hE:CE C E){w:World}{base bp kb ks:Nat}{foot:Nat->Prop}{b:Mk}{s:Al.Stmt}{x6 x7:Value}(hM0:Maker w base foot bp C b)(hK0:Cap w foot kb ks bp s x6 x7)(vd:Al.isVar E s.d)(h:b.out.length<999500):
  Calls Tryz.prog 165 #[.pointer (some ⟨kb,0,none⟩),.pointer (some ⟨ks,0,none⟩)] w fun e w'=>e= .returned (.tuple #[])/\∃ foot',Maker w' base foot' bp C (b.app (Al.conv2B E s.d.toNat))/\Chg w w' foot foot':=by
 have hC:=hE.ok
 have hC0:=Chg.refl w foot
 have ed:=hE.place vd
 have p_0:=hK0.p
 have c8_0:=hM0.cells.c8
 go_enter Tryz.func165,Tryz.ntmps165
 go_wp2_with fail
 go_still_tail 6,(by kernel_rfl)
 go_wp2_with (first|(go_at_call 77;refine (put_makes C _ ⟨15,15,9,0,0,_⟩ (by (try simp)<;> omega) _ _ _ _ hM0.drew).mono ?_;rintro e w1 ⟨rfl,foot1,hM1,hC⟩;have hK1:=hK0.drew.step hC;have hC1:=hC0.drew.trans hC;clear hM0 hC0 hC hK0 p_0 c8_0;have p_1:=hK1.p;have s1_1:=hK1.s1))
 go_wp2_with (first|(go_at_call 152;refine (store_makes C hC _ 15 9 s.d (by (try simp)<;> omega) vd.1 (hE.lt vd) _ _ _ _ hM1).mono ?_;rintro e w2 ⟨rfl,foot2,hM2,hC⟩;have hK2:=hK1.step hC;have hC2:=hC1.trans hC;clear hM1 hC1 hC hK1 p_1 s1_1))
 exact bodyPost_end (v:= .tuple #[]) (by simp [results,Tryz.results165,go_sem]) rfl ⟨rfl,_,by simpa [Mk.app_app,Al.ci,Al.conv2B,Al.stC,ed,hE.sc] using hM2,hC2⟩
theorem square_same {w:World}{base bp:Nat}{foot:Nat->Prop}{C:MkC}{b:Mk}(hC:C.Ok)(hM:Maker w base foot bp C b):Calls Tryz.prog 158 #[.pointer (some ⟨bp,0,none⟩)] w fun e w'=>e= .returned (.int .i64 ((C.q - 1) * (C.q - 1)))/\w'=w.drew:=by
 have q0:=hC.q0
 have q1:=hC.q1
 have c4:=hM.cells.c4
 have a1:0<=(C.q - 1) * (C.q - 1):=Int.mul_nonneg (by omega) (by omega)
 have a2:(C.q - 1) * (C.q - 1)<=8388607 * 8388607:=Int.mul_le_mul (by omega) (by omega) (by omega) (by omega)
 have e1:IntKind.i64.wrap (C.q - 1)=C.q - 1:=IntWalk.i64_in _ (by omega)
 have e2:IntKind.i64.wrap ((C.q - 1) * (C.q - 1))=(C.q - 1) * (C.q - 1):=IntWalk.i64_in _ (by omega)
 go_enter Tryz.func158,Tryz.ntmps158
 go_wp2_with fail
 go_still_tail 11,(by kernel_rfl)
 go_wp2_with fail
 exact bodyPost_ret (v:= .int .i64 ((C.q - 1) * (C.q - 1))) (by simp [results,Tryz.results158,go_sem,e1,e2]) rfl ⟨rfl,rfl⟩
theorem conv_makes {C:MkC}{E:Al.Env}(hE:CE C E)(b:Mk)(s:Al.Stmt)(x6 x7:Value)(vd:Al.isVar E s.d)(va:Al.isVar E s.a)(vb:Al.isVar E s.b)(hEo:E.Ok)(h:b.out.length<997000):Makes 119 [.agg (stmtV s x6 x7)] C b (b.app (Al.ci 1 21 0 0 0 (Al.overC E) :: (Al.eachC E.n (b.out.length+1) (Al.convB E (b.out.length+2) s.a.toNat s.b.toNat)++Al.eachC E.n (b.out.length+36) (Al.conv2B E s.d.toNat)))) (.tuple #[]):=by
 intro w base bp foot hM
 have hC:=hE.ok
 have q0:=hC.q0
 have q1:=hC.q1
 have n0:=hC.n0
 have n1:=hC.n1
 obtain⟨W,hW⟩:∃ W,W=(w.alloc (.cells #[.pointer (some ⟨bp,0,none⟩)] 91)).alloc (.cells #[.int .i64 s.op,.int .i64 s.d,.int .i64 s.a,.int .i64 s.b,.int .i64 s.c,.int .i64 s.k,x6,x7] 66):=⟨_,rfl⟩
 obtain⟨hM0,hC0,hK0⟩:Maker W base foot bp C b/\Chg w W foot foot/\Cap W foot w.heap.size (w.heap.size+1) bp s x6 x7:=by rw [hW];exact Cap.make hM s x6 x7
 have ed:=hE.place vd
 have ea:=hE.place va
 have eb:=hE.place vb
 obtain⟨kb,hkb⟩:∃ kb,kb=w.heap.size:=⟨_,rfl⟩
 obtain⟨ks,hks⟩:∃ ks,ks=w.heap.size+1:=⟨_,rfl⟩
 go_enter Tryz.func119,Tryz.ntmps119
 unfold stmtV
 go_wp2_with fail
 rw [<-hW]
 simp only [<-hks] at hK0 ⊢
 simp only [<-hkb] at hK0 ⊢
 clear hW hkb hks
 have p0:=hK0.p
 have c50:=hM0.cells.c5
 have c40:=hM0.cells.c4
 have z1:=World.new_ne _ _ p0
 have z2:=World.new_ne _ _ c50
 have z3:=World.new_ne _ _ c40
 obtain⟨f1,f2,f3,f4,f5,f6,f7⟩:=Al.most_facts hEo
 have em:C.n * ((C.q - 1) * (C.q - 1))=Al.mostC E:=by rw [Al.mostC,Al.sqr,hE.q,hE.n]
 have HA:=fun (o:Obj)=>square_same hC (hM0.below (((Below.refl W.heap.size W).alloc (Nat.le_refl _) o).drew))
 have HB:=square_same hC hM0.drew
 have HHA:=Lib.hid HA
 have HHB:=Lib.hid HB
 clear HA HB
 go_region_held3 (fun w'=>w'.cell? ⟨kb,0,none⟩=some (.pointer (some ⟨bp,0,none⟩))/\w'.cell? ⟨bp,5,none⟩=some (.int .i64 C.n)) (go_keep) (first
  |(go_at_call 158;refine Calls.mono HHB ?_;rintro e w2 ⟨rfl,rfl⟩)
  |(go_at_call 158;refine Calls.mono (HHA _) ?_;rintro e w2 ⟨rfl,rfl⟩))
 all_goals
  rw [IntWalk.i64_in (Al.mostC E) (by omega)]
  obtain⟨hM1,hC1,hBm1⟩:=IBox.make hM0 (Al.mostC E)
  have hK1:=hK0.step hC1
  replace hC1:=hC0.trans hC1
  obtain⟨W2,hW2⟩:∃ W2,W2=(W.alloc (.cells #[.int .i64 (Al.mostC E)] 2)).drew.drew:=⟨_,rfl⟩
  obtain⟨km,hkm⟩:∃ km,km=W.heap.size:=⟨_,rfl⟩
  replace hM1:=hM1.drew
  replace hC1:=hC1.drew
  replace hBm1:=hBm1.drew
  replace hK1:=hK1.drew
  rw [<-hW2] at hM1 hC1 hBm1 hK1 ⊢
  simp only [<-hkm] at hBm1 ⊢
  clear hW2 hkm hM0 hC0 hK0 p0 c50 c40 z1 z2 z3 HHA HHB
  have p1:=hK1.p
  have c4_1:=hM1.cells.c4
  have m_1:=hBm1.cell
  have z1:=World.new_ne _ _ p1
  have z2:=World.new_ne _ _ c4_1
  have z3:=World.new_ne _ _ m_1
  have w1:IntKind.i64.wrap (Al.mostC E+C.q)=Al.mostC E+C.q:=IntWalk.i64_in _ (by omega)
  have w2:IntKind.i64.wrap (Al.mostC E+C.q - 1)=Al.mostC E+C.q - 1:=IntWalk.i64_in _ (by omega)
  have w3:(Al.mostC E+C.q - 1).tdiv C.q=(Al.mostC E+C.q - 1) / C.q:=Int.tdiv_eq_ediv_of_nonneg (by omega)
  have w0:0<=(Al.mostC E+C.q - 1) / C.q:=Int.ediv_nonneg (by omega) (by omega)
  have w00:(Al.mostC E+C.q - 1) / C.q<=Al.mostC E+C.q - 1:=Int.ediv_le_self _ (by omega)
  have w4:IntKind.i64.wrap ((Al.mostC E+C.q - 1) / C.q)=(Al.mostC E+C.q - 1) / C.q:=IntWalk.i64_in _ (by omega)
  have w5:(Al.mostC E+C.q - 1) / C.q * C.q=Al.overC E:=by rw [Al.overC,hE.q]
  have w6:IntKind.i64.wrap (Al.overC E)=Al.overC E:=IntWalk.i64_in _ (by have:=hE.q;omega)
  have w7:(C.q == 0)=false:=by simp;omega
  have w8:¬C.q=0:=by omega
  go_wp2_with fail
  go_region_held3 (fun w'=>w'.cell? ⟨kb,0,none⟩=some (.pointer (some ⟨bp,0,none⟩))/\w'.cell? ⟨bp,4,none⟩=some (.int .i64 C.q)/\w'.cell? ⟨km,0,none⟩=some (.int .i64 (Al.mostC E))) (go_keep) (fail)
  obtain⟨hM2,hC2,hBo2⟩:=IBox.make hM1 (Al.overC E)
  have hK2:=hK1.step hC2
  have hBm2:=hBm1.step hC2
  replace hC2:=hC1.trans hC2
  obtain⟨W3,hW3⟩:∃ W3,W3=(W2.alloc (.cells #[.int .i64 (Al.overC E)] 2)).drew:=⟨_,rfl⟩
  obtain⟨ko,hko⟩:∃ ko,ko=W2.heap.size:=⟨_,rfl⟩
  rw [<-hW3] at hM2 hC2 hBo2 hBm2 hK2 ⊢
  simp only [<-hko] at hBo2 ⊢
  clear hW3 hko hM1 hC1 hK1 hBm1 p1 c4_1 m_1 z1 z2 z3 w1 w2 w3 w4 w5 w6 w7 w8 w0 w00
  have p_2:=hK2.p
  have o_2:=hBo2.cell
  go_wp2_with fail
  go_wp2_with (first|(go_at_call 72;refine (constant_makes C _ 21 _ (by (try simp)<;> omega) _ _ _ _ hM2).mono ?_;rintro e w3 ⟨rfl,foot3,hM3,hC⟩;have hK3:=hK2.step hC;have hBm3:=hBm2.step hC;have hBo3:=hBo2.step hC;have hC3:=hC2.trans hC;clear hM2 hC2 hC hK2 hBm2 hBo2 p_2 o_2;have p_3:=hK3.p))
  go_wp2_with (first|(go_at_call 150;refine (each_any hC hM3 (by (try simp)<;> omega) (by (try simp)<;> omega) 161 [.pointer (some ⟨kb,0,none⟩),.pointer (some ⟨ks,0,none⟩),.pointer (some ⟨km,0,none⟩),.pointer (some ⟨ko,0,none⟩)] Tryz.func161 (by kernel_rfl) rfl (fun w f=>Cap w f kb ks bp s x6 x7/\IBox w f km (Al.mostC E)/\IBox w f ko (Al.overC E)) ⟨hK3,hBm3,hBo3⟩ (fun _ _ _ _ h c=>⟨h.1.step c,h.2.1.step c,h.2.2.step c⟩) (fun w1 foot1 hM hK=>conv_body hE hM hK.1 hK.2.1 hK.2.2 va vb (by (try simp)<;> omega) (by omega) (by omega) (by omega) (by have:=hE.q;omega))).mono ?_;rintro e w4 ⟨rfl,foot4,hM4,hC⟩;have hK4:=hK3.step hC;have hC4:=hC3.trans hC;clear hM3 hC3 hC hK3 hBm3 hBo3;have p_4:=hK4.p))
  go_wp2_with (first|(go_at_call 150;refine (each_any hC hM4 (by (try simp)<;> omega) (by (try simp)<;> omega) 165 [.pointer (some ⟨kb,0,none⟩),.pointer (some ⟨ks,0,none⟩)] Tryz.func165 (by kernel_rfl) rfl (fun w f=>Cap w f kb ks bp s x6 x7) hK4 (fun _ _ _ _ h c=>h.step c) (fun w1 foot1 hM hK=>conv2_body hE hM hK vd (by (try simp)<;> omega))).mono ?_;rintro e w5 ⟨rfl,foot5,hM5,hC⟩;have hC5:=hC4.trans hC;clear hM4 hC4 hC hK4))
  exact bodyPost_end (v:= .tuple #[]) (by simp [results,Tryz.results119,go_sem]) rfl ⟨rfl,_,by simpa [Mk.app_app,Al.ci,Al.eachC,hE.n,Int.add_assoc] using hM5,hC5⟩
theorem prog_cells1 {w:World}{k:Nat}{c0 c1 c2 c3:Value}{t:TypeId}(h:w.heap[k]?=some (.cells #[c0,c1,c2,c3] t (0,0))):w.cell? ⟨k,0,none⟩=some c0/\w.cell? ⟨k,1,none⟩=some c1/\w.cell? ⟨k,2,none⟩=some c2:=by
 refine⟨?_,?_,?_⟩<;> (rw [cell_blk h];rfl)
theorem end_any (w:World)(q n:Int)(a:Option Addr)(nv cap:Nat)(sb:Value)(hn:0<=n/\n<=256)(hv:nv<=12):Calls Tryz.prog 55 #[.agg #[.int .i64 q,.int .i64 n,.slice a nv cap,sb]] w fun e w'=>e= .returned (.int .i64 (2+n * nv))/\Below w.heap.size w w':=by
 have hp0:0<=n * nv:=Int.mul_nonneg (by omega) (by omega)
 have hp1:n * nv<=256 * 12:=Int.mul_le_mul (by omega) (by omega) (by omega) (by omega)
 have ew:IntKind.i64.wrap (n * nv)=n * nv:=IntWalk.i64_in _ (by omega)
 have b0:=heap_alloc_new w (.cells #[.int .i64 q,.int .i64 n,.slice a nv cap,sb] 27)
 obtain⟨e0,e1,e2⟩:=prog_cells1 b0
 have eb:Below w.heap.size w (w.alloc (.cells #[.int .i64 q,.int .i64 n,.slice a nv cap,sb] 27)):=(Below.refl _ _).alloc (Nat.le_refl _) _
 go_enter Tryz.func55,Tryz.ntmps55
 go_wp2_with fail
 exact bodyPost_ret (v:= .int .i64 (2+n * nv)) (by simp [results,Tryz.results55,go_sem,ew];try rw [IntWalk.i64_in _ (by omega)]) rfl ⟨rfl,eb⟩
theorem intsV_snoc (l:List Int)(x:Int):intsV (l++[x])=intsV l++[.int .i64 x]:=by simp [intsV]
theorem Maker.tape {w W1:World}{base bp:Nat}{foot:Nat->Prop}{C:MkC}{b:Mk}(hM:Maker w base foot bp C b)(x:Int)(o:Obj)(gg cap:Nat)
  (hown:W1.ownsRow base 3 1 (.slice (some ⟨gg,0,none⟩) (b.tapeOut.length+1) cap) (b.tapeOut.length+1) (intsV b.tapeOut++[.int .i64 x])) (hgrow:(w.alloc o).grownBy W1 b.vt.ownBlock) (hat:b.vt.ownBlock=some gg\/gg=w.heap.size+1):
  W1.heap[bp]?=w.heap[bp]?/\
  ∃ foot',Maker (W1.setCell ⟨bp,9,none⟩ (.slice (some ⟨gg,0,none⟩) (b.tapeOut.length+1) cap)) base foot' bp C { b with tapeOut:=b.tapeOut++[x],vt:= .slice (some ⟨gg,0,none⟩) (b.tapeOut.length+1) cap}/\
   Chg w (W1.setCell ⟨bp,9,none⟩ (.slice (some ⟨gg,0,none⟩) (b.tapeOut.length+1) cap)) foot foot':=by
 obtain⟨vo,vs,vt,vg,hblk,ho,hs,ht,hg,hne,hbb,hl,hfb,hfr,hf,rfl,rfl⟩:=hM
 have nb:b.vt.ownBlock≠some bp:=own_ne_blk ht hblk (by decide)
 have hq:=grow_blk hgrow (alloc_blk o hblk) nb
 have ho1:=(ho.alloc o).kept hgrow (own_ne ho ht (by decide))
 have hs1:=(hs.alloc o).kept hgrow (own_ne hs ht (by decide))
 have hgt:b.vg.ownBlock=none\/b.vg.ownBlock≠b.vt.ownBlock:=by
  rcases hne with h|h
  ·by_cases hv:b.vg.ownBlock=none
   ·exact .inl hv
   ·exact .inr (by rw [h];exact hv)
  ·exact .inr (Ne.symm h)
 have hg1:=(hg.alloc o).kept hgrow hgt
 have hgb:gg≠bp:=fun h=>own_ne_blk hown hq (by decide) (by rw [h];rfl)
 have k7:∀ k,k≠bp->(W1.setCell ⟨bp,9,none⟩ (.slice (some ⟨gg,0,none⟩) (b.tapeOut.length+1) cap)).heap[k]?=W1.heap[k]?:=fun k hk=>set_blk_ne _ _ hk
 have s1:=hgrow.size
 simp at s1
 have g1:=hown.lt gg rfl
 have own:∀ {e size v n xs},W1.ownsRow base e size v n xs->99≠e->(W1.setCell ⟨bp,9,none⟩ (.slice (some ⟨gg,0,none⟩) (b.tapeOut.length+1) cap)).ownsRow base e size v n xs:=fun h he=>
  own_of h fun k hk=>k7 k fun e=>own_ne_blk h hq he (e ▸ hk)
 refine⟨by rw [hq,hblk],fun k=>foot k\/(w.heap.size<=k/\k<W1.heap.size),⟨vo,vs,_,b.vg,set_blk hq 9 _,own ho1 (by decide),own hs1 (by decide),?_,own hg1 (by decide),?_,hbb,hl,.inl hfb,?_,?_,rfl,rfl⟩,⟨hgrow.os,hgrow.tape,hgrow.output,?_,?_,?_⟩⟩
 ·have:=own hown (by decide)
  simpa [intsV_snoc] using this
 ·right
  intro h
  rcases hat with h1|h1
  ·rcases hne with h2|h2
   ·rw [h2] at h1;cases h1
   ·exact h2 (h1.trans h)
  ·have:=(hg.lt gg (by rw [<-h];rfl)).2
   omega
 ·rintro k (h|h|h|h)
  ·exact .inl (hfr _ (.inl h))
  ·exact .inl (hfr _ (.inr (.inl h)))
  ·have h:gg=k:=by simpa [inRow,Value.ownBlock] using h
   subst h
   rcases hat with h|h
   ·exact .inl (hfr _ (.inr (.inr (.inl h))))
   ·exact .inr (by omega)
  ·exact .inl (hfr _ (.inr (.inr (.inr h))))
 ·rintro k (h|h)
  ·have:=hf k h
   rw [set_size];omega
  ·have:=hf bp hfb
   rw [set_size];omega
 ·rw [set_size];omega
 ·intro k hk hn
  have e1:k≠bp:=fun h=>hn (h ▸ hfb)
  rw [k7 k e1,hgrow.block k (by simp;omega) (fun h=>hn (hfr k (.inr (.inr (.inl h.symm))))),heap_alloc_old _ _ hk]
 ·rintro k (h|h)
  ·exact .inl h
  ·exact .inr h.1
theorem Maker.given {w W1:World}{base bp:Nat}{foot:Nat->Prop}{C:MkC}{b:Mk}(hM:Maker w base foot bp C b)(x:Int)(o:Obj)(gg cap:Nat)
  (hown:W1.ownsRow base 3 1 (.slice (some ⟨gg,0,none⟩) (b.givenUp.length+1) cap) (b.givenUp.length+1) (intsV b.givenUp++[.int .i64 x])) (hgrow:(w.alloc o).grownBy W1 b.vg.ownBlock) (hat:b.vg.ownBlock=some gg\/gg=w.heap.size+1):
  W1.heap[bp]?=w.heap[bp]?/\
  ∃ foot',Maker (W1.setCell ⟨bp,10,none⟩ (.slice (some ⟨gg,0,none⟩) (b.givenUp.length+1) cap)) base foot' bp C { b with givenUp:=b.givenUp++[x],vg:= .slice (some ⟨gg,0,none⟩) (b.givenUp.length+1) cap}/\
   Chg w (W1.setCell ⟨bp,10,none⟩ (.slice (some ⟨gg,0,none⟩) (b.givenUp.length+1) cap)) foot foot':=by
 obtain⟨vo,vs,vt,vg,hblk,ho,hs,ht,hg,hne,hbb,hl,hfb,hfr,hf,rfl,rfl⟩:=hM
 have nb:b.vg.ownBlock≠some bp:=own_ne_blk hg hblk (by decide)
 have hq:=grow_blk hgrow (alloc_blk o hblk) nb
 have ho1:=(ho.alloc o).kept hgrow (own_ne ho hg (by decide))
 have hs1:=(hs.alloc o).kept hgrow (own_ne hs hg (by decide))
 have ht1:=(ht.alloc o).kept hgrow hne
 have hgb:gg≠bp:=fun h=>own_ne_blk hown hq (by decide) (by rw [h];rfl)
 have k7:∀ k,k≠bp->(W1.setCell ⟨bp,10,none⟩ (.slice (some ⟨gg,0,none⟩) (b.givenUp.length+1) cap)).heap[k]?=W1.heap[k]?:=fun k hk=>set_blk_ne _ _ hk
 have s1:=hgrow.size
 simp at s1
 have g1:=hown.lt gg rfl
 have own:∀ {e size v n xs},W1.ownsRow base e size v n xs->99≠e->(W1.setCell ⟨bp,10,none⟩ (.slice (some ⟨gg,0,none⟩) (b.givenUp.length+1) cap)).ownsRow base e size v n xs:=fun h he=>
  own_of h fun k hk=>k7 k fun e=>own_ne_blk h hq he (e ▸ hk)
 refine⟨by rw [hq,hblk],fun k=>foot k\/(w.heap.size<=k/\k<W1.heap.size),⟨vo,vs,b.vt,_,set_blk hq 10 _,own ho1 (by decide),own hs1 (by decide),own ht1 (by decide),?_,?_,hbb,hl,.inl hfb,?_,?_,rfl,rfl⟩,⟨hgrow.os,hgrow.tape,hgrow.output,?_,?_,?_⟩⟩
 ·have:=own hown (by decide)
  simpa [intsV_snoc] using this
 ·rcases hne with h|h
  ·exact .inl h
  ·right
   intro h3
   rcases hat with h1|h1
   ·exact h (h3.trans h1.symm)
   ·have:=(ht.lt gg (by rw [h3];rfl)).2
    omega
 ·rintro k (h|h|h|h)
  ·exact .inl (hfr _ (.inl h))
  ·exact .inl (hfr _ (.inr (.inl h)))
  ·exact .inl (hfr _ (.inr (.inr (.inl h))))
  ·have h:gg=k:=by simpa [inRow,Value.ownBlock] using h
   subst h
   rcases hat with h|h
   ·exact .inl (hfr _ (.inr (.inr (.inr h))))
   ·exact .inr (by omega)
 ·rintro k (h|h)
  ·have:=hf k h
   rw [set_size];omega
  ·have:=hf bp hfb
   rw [set_size];omega
 ·rw [set_size];omega
 ·intro k hk hn
  have e1:k≠bp:=fun h=>hn (h ▸ hfb)
  rw [k7 k e1,hgrow.block k (by simp;omega) (fun h=>hn (hfr k (.inr (.inr (.inr h.symm))))),heap_alloc_old _ _ hk]
 ·rintro k (h|h)
  ·exact .inl h
  ·exact .inr h.1
section
variable {w:World} {base bp:Nat} {foot:Nat->Prop} {C:MkC} {b:Mk}
theorem Maker.c9 (hM:Maker w base foot bp C b):w.cell? ⟨bp,9,none⟩=some b.vt:=by
 obtain⟨vo,vs,vt,vg,hblk,ho,hs,ht,hg,hne,hbb,hl,hfb,hfr,hf,rfl,rfl⟩:=hM
 rw [cell_blk hblk];rfl
theorem Maker.c10 (hM:Maker w base foot bp C b):w.cell? ⟨bp,10,none⟩=some b.vg:=by
 obtain⟨vo,vs,vt,vg,hblk,ho,hs,ht,hg,hne,hbb,hl,hfb,hfr,hf,rfl,rfl⟩:=hM
 rw [cell_blk hblk];rfl
theorem Maker.own9 (hM:Maker w base foot bp C b):w.ownsRow base 3 1 b.vt b.tapeOut.length (intsV b.tapeOut):=by
 obtain⟨vo,vs,vt,vg,hblk,ho,hs,ht,hg,hne,hbb,hl,hfb,hfr,hf,rfl,rfl⟩:=hM
 exact ht
theorem Maker.own10 (hM:Maker w base foot bp C b):w.ownsRow base 3 1 b.vg b.givenUp.length (intsV b.givenUp):=by
 obtain⟨vo,vs,vt,vg,hblk,ho,hs,ht,hg,hne,hbb,hl,hfb,hfr,hf,rfl,rfl⟩:=hM
 exact hg
theorem Maker.bounds (hM:Maker w base foot bp C b):base<=bp/\bp<w.heap.size:=by
 obtain⟨vo,vs,vt,vg,hblk,ho,hs,ht,hg,hne,hbb,hl,hfb,hfr,hf,rfl,rfl⟩:=hM
 exact⟨hbb,blk_lt hblk⟩
theorem Maker.blk (hM:Maker w base foot bp C b):∃ c,w.heap[bp]?=some (.cells c 99 (0,0)):=by
 obtain⟨vo,vs,vt,vg,hblk,_⟩:=hM
 exact⟨_,hblk⟩
end
theorem alloc_cell {w:World}{a:Addr}{u:Value}(o:Obj)(h:w.cell? a=some u):(w.alloc o).cell? a=some u:=by rw [World.cell?_alloc_some _ _ _ (by simp [h])];exact h
theorem draw_body {C:MkC}{E:Al.Env}(hE:CE C E){w:World}{base bp kb ks:Nat}{foot:Nat->Prop}{b:Mk}{s:Al.Stmt}{x6 x7:Value}(hM0:Maker w base foot bp C b)(hK0:Cap w foot kb ks bp s x6 x7)(vd:Al.isVar E s.d)(h:b.out.length<998000)(ht:b.tapeOut.length<998000):
  Calls Tryz.prog 172 #[.pointer (some ⟨kb,0,none⟩),.pointer (some ⟨ks,0,none⟩)] w fun e w'=>e= .returned (.tuple #[])/\∃ foot' vt',Maker w' base foot' bp C { b.app (Al.drawB E b.out.length s.d.toNat 0) with tapeOut:=b.tapeOut++[((b.out.length+3:Nat):Int)],vt:=vt'}/\Chg w w' foot foot':=by
 have hC:=hE.ok
 have hC0:=Chg.refl w foot
 have q0:=hC.q0
 have q1:=hC.q1
 have n0:=hC.n0
 have n1:=hC.n1
 have ed:=hE.place vd
 obtain⟨j0,hj0,jz0,jz1,jz2⟩:=info_parts Tryz.infoInt
 have p_0:=hK0.p
 go_enter Tryz.func172,Tryz.ntmps172
 go_wp2_with (first|(go_at_call 111;refine (here_makes C _ _ _ _ _ hM0).mono ?_;rintro e w1 ⟨rfl,foot1,hM1,hC⟩;have hK1:=hK0.step hC;have hC1:=hC0.trans hC;clear hM0 hC0 hC hK0 p_0;have p_1:=hK1.p))
 go_wp2_with (first|(go_at_call 77;refine (put_makes C _ ⟨15,12,0,0,0,1⟩ (by (try simp)<;> omega) _ _ _ _ hM1).mono ?_;rintro e w2 ⟨rfl,foot2,hM2,hC⟩;have hK2:=hK1.step hC;have hC2:=hC1.trans hC;clear hM1 hC1 hC hK1 p_1;have p_2:=hK2.p))
 go_wp2_with (first|(go_at_call 77;refine (put_makes C _ ⟨15,13,0,0,0,0⟩ (by (try simp)<;> omega) _ _ _ _ hM2).mono ?_;rintro e w3 ⟨rfl,foot3,hM3,hC⟩;have hK3:=hK2.step hC;have hC3:=hC2.trans hC;clear hM2 hC2 hC hK2 p_2;have p_3:=hK3.p))
 go_wp2_with (first|(go_at_call 164;refine (two_makes C _ 13 16 12 13 (by (try simp)<;> omega) _ _ _ _ hM3).mono ?_;rintro e w4 ⟨rfl,foot4,hM4,hC⟩;have hK4:=hK3.step hC;have hC4:=hC3.trans hC;clear hM3 hC3 hC hK3 p_3;have p_4:=hK4.p;have c9_4:=hM4.c9))
 replace c9_4:w4.cell? ⟨bp,9,none⟩=some b.vt:=c9_4
 go_wp2_with fail
 refine start_ (n:=13) (S:=fun w'=>w'.cell? ⟨kb,0,none⟩=some (.pointer (some ⟨bp,0,none⟩))/\w'.cell? ⟨bp,9,none⟩=some b.vt) (ds:=[12]) #[false,false,false,false,false,false,false,false,false,false,false,false,false] (by kernel_rfl) rfl rfl ⟨p_4,c9_4⟩ (fun hHeld=>?_)
 refine pure_ (i:=6) (N:=some 19) (v:=?_) (a':=?_) #[false,false,false,false,false,false,true,false,false,false,false,false,false] rfl rfl (by kernel_rfl) (fun _ _ _ h=>h) (Or.inl ⟨by rfl,?_⟩) ?_ ?_
 rotate_left
 ·intro w'
  go_simp
  with_reducible rfl
 rotate_left
 ·simp only [Act.put,List.setIfInBounds_toArray,List.set_cons_zero,List.set_cons_succ,i64_w,i32_w]
  rfl
 refine take_ (i:=0) (N:=some 13) (v:=?_) (a':=?_) #[true,false,false,false,false,false,true,false,false,false,false,false,false] rfl rfl (by kernel_rfl) (fun _ _ _ h=>h) (Or.inl ⟨by rfl,?_⟩) hHeld ?_ ?_
 rotate_left
 ·rintro w' ⟨s0,s1⟩
  go_simp
  with_reducible rfl
 rotate_left
 ·simp only [Act.put,List.setIfInBounds_toArray,List.set_cons_zero,List.set_cons_succ,i64_w,i32_w]
  rfl
 refine take_ (i:=1) (N:=some 14) (v:=?_) (a':=?_) #[true,true,false,false,false,false,true,false,false,false,false,false,false] rfl rfl (by kernel_rfl) (fun _ _ _ h=>h) (Or.inl ⟨by rfl,?_⟩) hHeld ?_ ?_
 rotate_left
 ·rintro w' ⟨s0,s1⟩
  go_simp
  with_reducible rfl
 rotate_left
 ·simp only [Act.put,List.setIfInBounds_toArray,List.set_cons_zero,List.set_cons_succ,i64_w,i32_w]
  rfl
 refine pure_ (i:=2) (N:=some 15) (v:=?_) (a':=?_) #[true,true,true,false,false,false,true,false,false,false,false,false,false] rfl rfl (by kernel_rfl) (fun _ _ _ h=>h) (Or.inl ⟨by rfl,?_⟩) ?_ ?_
 rotate_left
 ·intro w'
  go_simp
  with_reducible rfl
 rotate_left
 ·simp only [Act.put,List.setIfInBounds_toArray,List.set_cons_zero,List.set_cons_succ,i64_w,i32_w]
  rfl
 refine pure_ (i:=3) (N:=some 16) (v:=?_) (a':=?_) #[true,true,true,true,false,false,true,false,false,false,false,false,false] rfl rfl (by kernel_rfl) (fun _ _ _ h=>h) (Or.inl ⟨by rfl,?_⟩) ?_ ?_
 rotate_left
 ·intro w'
  go_simp
  with_reducible rfl
 rotate_left
 ·simp only [Act.put,List.setIfInBounds_toArray,List.set_cons_zero,List.set_cons_succ,i64_w,i32_w]
  rfl
 refine take_ (i:=4) (N:=some 17) (v:=?_) (a':=?_) #[true,true,true,true,true,false,true,false,false,false,false,false,false] rfl rfl (by kernel_rfl) (fun _ _ _ h=>h) (Or.inl ⟨by rfl,?_⟩) hHeld ?_ ?_
 rotate_left
 ·rintro w' ⟨s0,s1⟩
  go_simp
  with_reducible rfl
 rotate_left
 ·simp only [Act.put,List.setIfInBounds_toArray,List.set_cons_zero,List.set_cons_succ,i64_w,i32_w]
  rfl
 refine take_ (i:=5) (N:=some 18) (v:=?_) (a':=?_) #[true,true,true,true,true,true,true,false,false,false,false,false,false] rfl rfl (by kernel_rfl) (fun _ _ _ h=>h) (Or.inl ⟨by rfl,?_⟩) hHeld ?_ ?_
 rotate_left
 ·rintro w' ⟨s0,s1⟩
  go_simp
  with_reducible rfl
 rotate_left
 ·simp only [Act.put,List.setIfInBounds_toArray,List.set_cons_zero,List.set_cons_succ,i64_w,i32_w]
  rfl
 refine one_ (i:=7) (N:=some 20) #[true,true,true,true,true,true,true,true,false,false,false,false,false] rfl rfl (by kernel_rfl) (by decide) (fun K hK=>?_)
 refine goes_ Tryz.func77 (by kernel_rfl) rfl #[.pointer (some ⟨bp,0,none⟩),.agg #[.int .i64 18,.int .i64 0,.int .i64 16,.int .i64 0,.int .i64 0,.int .i64 0]] (by rfl) rfl rfl (by simp only [List.map_toArray,List.map_cons,List.map_nil];rfl) ?_
 with_reducible refine (put_any hM4.drew ⟨18,0,16,0,0,0⟩ (by (try simp)<;> omega)).mono ?_
 rintro e w5 ⟨rfl,foot5,hM5,hC⟩
 refine⟨_,rfl,?_⟩
 have hK5:=hK4.drew.step hC
 have hC5:=hC4.drew.trans hC
 have p_5:=hK5.p
 have c9_5:w5.cell? ⟨bp,9,none⟩=some b.vt:=hM5.c9
 refine hK.out _ _ ⟨p_5,c9_5⟩ (fun hHeld=>?_)
 clear hK K
 refine norm_ (a':=?_) ?_ ?_
 rotate_left
 ·show Act.put _ (some 20) _=_
  simp only [Act.put,List.setIfInBounds_toArray,List.set_cons_zero,List.set_cons_succ,i64_w,i32_w]
  rfl
 refine one_ (i:=8) (N:=some 21) #[true,true,true,true,true,true,true,true,true,false,false,false,false] rfl rfl (by kernel_rfl) (by decide) (fun K hK=>?_)
 go_simp
 refine hK.out _ _ ⟨alloc_cell _ p_5,alloc_cell _ c9_5⟩ (fun hHeld=>?_)
 clear hK K
 refine one_ (i:=9) (N:=some 22) #[true,true,true,true,true,true,true,true,true,true,false,false,false] rfl rfl (by kernel_rfl) (by decide) (fun K hK=>?_)
 refine step_append_lies _ (by rfl) (.tmp 17) (.tmp 21) _ (by rfl) base 3 j0 _ 1 8 Tryz.underlying86 hj0 jz0 jz1 jz2 rfl (by omega) b.vt b.tapeOut.length (intsV b.tapeOut) (by rfl) (hM5.own9.alloc _)
  ⟨w5.heap.size,0,none⟩ 1 1 [.int .i64 ((b.out.length:Int)+1+1+1)] (by rfl) (by rfl) (World.news_of_block (cs:= #[.int .i64 ((b.out.length:Int)+1+1+1)]) (t:=3) (fr:=(0,0)) (heap_alloc_new w5 _)) (by simp [Value.oneCell'])
  (by omega) (by unfold maxLen;omega) (by omega) (by have:=hM5.bounds;simp;omega) (w5.heap.size+1) (by simp) ?_
 intro gg cap W1 hown hgrow hat hlt
 obtain⟨hbp,foot6,hM6,hC6⟩:=hM5.tape ((b.out.length:Int)+1+1+1) _ gg cap hown hgrow hat
 have p_7:W1.cell? ⟨kb,0,none⟩=some (.pointer (some ⟨bp,0,none⟩)):=by rw [cell_blk (grow_blk hgrow (alloc_blk _ hK5.hb) (own_ne_blk hM5.own9 hK5.hb (by decide)))];rfl
 have c9_7:W1.cell? ⟨bp,9,none⟩=some b.vt:=by rw [World.cell?_of_block hbp];exact c9_5
 obtain⟨cc,hcc⟩:=hM5.blk
 have f_7:=frozen_blk (hbp.trans hcc) 9
 have HM6:=Lib.hid hM6
 have HC6:=Lib.hid hC6
 have HK6:=Lib.hid (hK5.step hC6)
 clear hM6 hC6
 refine hK.out _ _ ⟨p_7,c9_7⟩ (fun hHeld=>?_)
 clear hK K
 refine norm_ (a':=?_) ?_ ?_
 rotate_left
 ·show Act.put _ (some 22) _=_
  simp only [Act.put,List.setIfInBounds_toArray,List.set_cons_zero,List.set_cons_succ,i64_w,i32_w]
  rfl
 refine pure_ (i:=10) (N:=some 23) (v:=?_) (a':=?_) #[true,true,true,true,true,true,true,true,true,true,true,false,false] rfl rfl (by kernel_rfl) (fun _ _ _ h=>h) (Or.inl ⟨by rfl,?_⟩) ?_ ?_
 rotate_left
 ·intro w'
  go_simp
  with_reducible rfl
 rotate_left
 ·simp only [Act.put,List.setIfInBounds_toArray,List.set_cons_zero,List.set_cons_succ,i64_w,i32_w]
  rfl
 refine pure_ (i:=11) (N:=some 24) (v:=?_) (a':=?_) #[true,true,true,true,true,true,true,true,true,true,true,true,false] rfl rfl (by kernel_rfl) (fun _ _ _ h=>h) (Or.inl ⟨by rfl,?_⟩) ?_ ?_
 rotate_left
 ·intro w'
  go_simp
  with_reducible rfl
 rotate_left
 ·simp only [Act.put,List.setIfInBounds_toArray,List.set_cons_zero,List.set_cons_succ,i64_w,i32_w]
  rfl
 refine last_ (i:=12) (N:=none) #[true,true,true,true,true,true,true,true,true,true,true,true,true] rfl rfl (by kernel_rfl) (by decide) (fun K hK=>?_)
 go_simp
 refine hK.out _ _ ?_
 clear hK K
 refine done_ (by kernel_rfl) ?_
 obtain⟨w6,hw6⟩:∃ w6,w6=W1.setCell ⟨bp,9,none⟩ (.slice (some ⟨gg,0,none⟩) (b.tapeOut.length+1) cap):=⟨_,rfl⟩
 rw [<-hw6]
 have hC6:Chg w w6 foot foot6:=by rw [hw6];exact hC5.trans HC6
 have hK6:Cap w6 foot6 kb ks bp s x6 x7:=by rw [hw6];exact HK6
 have hM6:Maker w6 base foot6 bp C _:=hw6 ▸ HM6
 clear HM6 HC6 HK6 hw6 hHeld hown hgrow hbp p_7 c9_7 f_7 hcc hM4 hM5 hK5 hC5 hK4 hC4 p_5 c9_5 hat hlt
 obtain⟨b6,hb6⟩:∃ b6:Mk,b6={ b.app [Al.ci 15 12 0 0 0 1,Al.ci 15 13 0 0 0 0,Al.ci 13 16 12 13 0 0,Al.ci 18 0 16 0 0 0] with tapeOut:=b.tapeOut++[((b.out.length+3:Nat):Int)],vt:= .slice (some ⟨gg,0,none⟩) (b.tapeOut.length+1) cap}:=⟨_,rfl⟩
 replace hM6:Maker w6 base foot6 bp C b6:=by rw [hb6];simpa [Mk.app,Mk.put,Al.ci,Int.add_assoc] using hM6
 have hl6:b6.out.length=b.out.length+4:=by rw [hb6];simp
 have hC:=hE.ok
 replace hb6:=Lib.hid hb6
 have p_6:=hK6.p
 have c0_6:=hM6.cells.c0
 have c1_6:=hM6.cells.c1
 have c2_6:=hM6.cells.c2
 have c3_6:=hM6.cells.c3
 have nn:0<=C.n * C.nv:=Int.mul_nonneg (by omega) (by omega)
 go_wp2_with fail
 go_region_held3 (fun w'=>w'.cell? ⟨kb,0,none⟩=some (.pointer (some ⟨bp,0,none⟩))/\w'.cell? ⟨bp,0,none⟩=some (.int .i64 C.q)/\w'.cell? ⟨bp,1,none⟩=some (.int .i64 C.n)/\w'.cell? ⟨bp,2,none⟩=some (.slice C.va C.nv C.vcap)/\w'.cell? ⟨bp,3,none⟩=some C.sb) ((refine⟨?_,?_,?_,?_,?_⟩<;> assumption)) (first
  |(go_at_call 55;refine (end_any _ _ _ _ _ _ _ ⟨by omega,by omega⟩ hC.v1).mono ?_;rintro e w7 ⟨rfl,hb⟩;have hM7:=hM6.drew.below hb;have hK7:=hK6.drew.step (Chg.of_below foot6 hb);have hC7:=hC6.drew.trans (Chg.of_below foot6 hb);clear hM6 hC6 hK6 p_6 c0_6 c1_6 c2_6 c3_6;have p_7:=hK7.p;have c0_7:=hM7.cells.c0;have c1_7:=hM7.cells.c1;have c2_7:=hM7.cells.c2;have c3_7:=hM7.cells.c3)
  |(go_at_call 77;refine (put_makes C _ ⟨15,15,12,0,0,_⟩ (by omega) _ _ _ _ hM7).mono ?_;rintro e w8 ⟨rfl,foot8,hM8,hC'⟩;have hK8:=hK7.step hC';have hC8:=hC7.trans hC';clear hM7 hC7 hK7 hC' p_7 c0_7 c1_7 c2_7 c3_7;have p_8:=hK8.p;have c0_8:=hM8.cells.c0;have c1_8:=hM8.cells.c1;have c2_8:=hM8.cells.c2;have c3_8:=hM8.cells.c3))
 clear c0_8 c1_8 c2_8 c3_8
 go_wp2_with fail
 go_wp2_with (first|(go_at_call 112;refine (within_makes C _ (1) (4096) ⟨3,12,12,1,0,0⟩ (by (try simp)<;> omega) _ _ _ _ hM8).mono ?_;rintro e w9 ⟨rfl,foot9,hM9,hC⟩;have hK9:=hK8.step hC;have hC9:=hC8.trans hC;clear hM8 hC8 hC hK8 p_8;have p_9:=hK9.p))
 go_wp2_with (first|(go_at_call 77;refine (put_makes C _ ⟨16,0,0,12,0,1⟩ (by (try simp)<;> omega) _ _ _ _ hM9).mono ?_;rintro e w10 ⟨rfl,foot10,hM10,hC⟩;have hK10:=hK9.step hC;have hC10:=hC9.trans hC;clear hM9 hC9 hC hK9 p_9;have p_10:=hK10.p))
 go_wp2_with (first|(go_at_call 164;refine (two_makes C _ 7 15 15 23 (by (try simp)<;> omega) _ _ _ _ hM10).mono ?_;rintro e w11 ⟨rfl,foot11,hM11,hC⟩;have hK11:=hK10.step hC;have hC11:=hC10.trans hC;clear hM10 hC10 hC hK10 p_10;have p_11:=hK11.p))
 go_wp2_with (first|(go_at_call 164;refine (two_makes C _ 13 16 15 19 (by (try simp)<;> omega) _ _ _ _ hM11).mono ?_;rintro e w12 ⟨rfl,foot12,hM12,hC⟩;have hK12:=hK11.step hC;have hC12:=hC11.trans hC;clear hM11 hC11 hC hK11 p_11;have p_12:=hK12.p))
 go_wp2_with (first|(go_at_call 77;refine (put_makes C _ ⟨18,0,16,0,0,_⟩ (by (try simp)<;> omega) _ _ _ _ hM12).mono ?_;rintro e w13 ⟨rfl,foot13,hM13,hC⟩;have hK13:=hK12.step hC;have hC13:=hC12.trans hC;clear hM12 hC12 hC hK12 p_12;have p_13:=hK13.p;have s1_13:=hK13.s1))
 go_wp2_with (first|(go_at_call 152;refine (store_makes C hC _ 15 9 s.d (by (try simp)<;> omega) vd.1 (hE.lt vd) _ _ _ _ hM13).mono ?_;rintro e w14 ⟨rfl,foot14,hM14,hC⟩;have hK14:=hK13.step hC;have hC14:=hC13.trans hC;clear hM13 hC13 hC hK13 p_13 s1_13))
 refine bodyPost_end (v:= .tuple #[]) (by simp [results,Tryz.results172,go_sem]) rfl ⟨rfl,_,.slice (some ⟨gg,0,none⟩) (b.tapeOut.length+1) cap,?_,hC14⟩
 replace hb6:b6=_:=hb6
 have hfin:C.nv=E.nv:=hE.nv
 subst hb6
 simpa [Mk.app,Al.ci,Al.drawB,Al.stC,ed,Al.Env.fin,hE.n,hE.nv,Int.add_assoc] using hM14
theorem each_gen {w:World}{base bp:Nat}{foot:Nat->Prop}{C:MkC}{b:Mk}(B:Mk->Prop)(hC:C.Ok)(hM0:Maker w base foot bp C b)(hlen:b.out.length<999000)(hlen2:∀ b2,B b2->b2.out.length<999900)(f:FuncId)(caps:List Value){fn:Func}(hfn:Tryz.prog.funcs[f]?=some fn)(hname:(fn.name == "runtime.NumGoroutine")=false)(hbody:fn.body.isSome=true)
  (I:World->(Nat->Prop)->Prop) (hI:I w foot) (hstep:∀ w w' f f',I w f->Chg w w' f f'->I w' f')
  (hb:∀ w1 foot1,Maker w1 base foot1 bp C (b.app [Al.ci 1 9 0 0 0 0])->I w1 foot1->Calls Tryz.prog f caps.toArray w1 fun e w'=>e= .returned (.tuple #[])/\∃ foot' b2,B b2/\Maker w' base foot' bp C b2/\Chg w1 w' foot1 foot'):
  Calls Tryz.prog 150 #[.pointer (some ⟨bp,0,none⟩),.func (.func f) #[] caps.toArray] w fun e w'=>e= .returned (.tuple #[])/\∃ foot' b2,B b2/\Maker w' base foot' bp C (b2.app [Al.upC C.n 9,Al.ci 13 16 9 10 0 0,Al.ci 19 0 16 0 0 ((b.out.length+1:Nat):Int)])/\Chg w w' foot foot':=by
 have hC0:=Chg.refl w foot
 go_enter Tryz.func150,Tryz.ntmps150
 go_wp2_with (first|(go_at_call 72;refine (constant_makes C _ 9 0 (by omega) _ _ _ _ hM0).mono ?_;rintro e w1 ⟨rfl,foot1,hM1,hC1⟩;have hI1:=hstep _ _ _ _ hI hC1;clear hM0 hC0))
 go_wp2_with (first|(go_at_call 111;refine (here_makes C _ _ _ _ _ hM1).mono ?_;rintro e w2 ⟨rfl,foot2,hM2,hC2⟩;have hI2:=hstep _ _ _ _ hI1 hC2;have hC2:=hC1.trans hC2;clear hM1 hC1 hI1 hI))
 rw [enters_ hfn hname hbody,Oper.upon_enter]
 refine (hb _ _ hM2 hI2).mono ?_
 rintro e w3 ⟨rfl,foot3,b2,hB,hM3,hC3⟩
 replace hlen2:=hlen2 b2 hB
 replace hC3:=hC2.trans hC3
 clear hM2 hC2 hI2 hb
 go_wp2_with (first|(go_at_call 177;refine (up_makes C hC _ 9 (by omega) _ _ _ _ hM3).mono ?_;rintro e w4 ⟨rfl,foot4,hM4,hC⟩;have hC4:=hC3.trans hC;clear hM3 hC3 hC))
 go_wp2_with (first|(go_at_call 164;refine (two_makes C _ 13 16 9 10 (by (try simp)<;> omega) _ _ _ _ hM4).mono ?_;rintro e w5 ⟨rfl,foot5,hM5,hC⟩;have hC5:=hC4.trans hC;clear hM4 hC4 hC))
 go_wp2_with (first|(go_at_call 77;refine (put_makes C _ ⟨19,0,16,0,0,_⟩ (by (try simp)<;> omega) _ _ _ _ hM5).mono ?_;rintro e w6 ⟨rfl,foot6,hM6,hC⟩;have hC6:=hC5.trans hC;clear hM5 hC5 hC))
 exact bodyPost_end (v:= .tuple #[]) (by simp [results,Tryz.results150,go_sem]) rfl ⟨rfl,_,b2,hB,by simpa [Mk.app_app,Al.ci] using hM6,hC6⟩
theorem mask_step:∀ j:Fin 24,bits .or .i64 (wrap64 ((2 ^ j.val - 1) * 2)) 1=2 ^ (j.val+1) - 1:=by decide+kernel
theorem mask_test {q:Int}(hq:Al.isPrime q=true):∀ j:Nat,j<=Al.bitsOf q->decide ((2:Int) ^ j<q)=decide (j<Al.bitsOf q):=by
 simp only [Al.isPrime,Bool.or_eq_true,beq_iff_eq] at hq
 rcases hq with (((((h|h)|h)|h)|h)|h)|h<;> subst h<;> decide
theorem draw_makes {C:MkC}{E:Al.Env}(hE:CE C E)(b:Mk)(s:Al.Stmt)(x6 x7:Value)(vd:Al.isVar E s.d)(hb:E.bits=Al.bitsOf E.q)(hpr:Al.isPrime E.q=true)(hbb:E.bits<=23)(h:b.out.length<997000)(ht:b.tapeOut.length<997000){w:World}{base bp:Nat}{foot:Nat->Prop}(hM:Maker w base foot bp C b):
  Calls Tryz.prog 124 #[.pointer (some ⟨bp,0,none⟩),.agg (stmtV s x6 x7)] w fun e w'=>e= .returned (.tuple #[])/\∃ foot' vt',Maker w' base foot' bp C { b.app (Al.ci 1 23 0 0 0 (2 ^ E.bits - 1) :: Al.eachC E.n (b.out.length+1) (Al.drawB E (b.out.length+2) s.d.toNat 0)) with tapeOut:=b.tapeOut++[((b.out.length+2+3:Nat):Int)],vt:=vt'}/\Chg w w' foot foot':=by
 have hC:=hE.ok
 have q0:=hC.q0
 have q1:=hC.q1
 have n0:=hC.n0
 have n1:=hC.n1
 obtain⟨W,hW⟩:∃ W,W=(w.alloc (.cells #[.pointer (some ⟨bp,0,none⟩)] 91)).alloc (.cells #[.int .i64 s.op,.int .i64 s.d,.int .i64 s.a,.int .i64 s.b,.int .i64 s.c,.int .i64 s.k,x6,x7] 66):=⟨_,rfl⟩
 obtain⟨hM0,hC0,hK0⟩:Maker W base foot bp C b/\Chg w W foot foot/\Cap W foot w.heap.size (w.heap.size+1) bp s x6 x7:=by rw [hW];exact Cap.make hM s x6 x7
 have ed:=hE.place vd
 obtain⟨kb,hkb⟩:∃ kb,kb=w.heap.size:=⟨_,rfl⟩
 obtain⟨ks,hks⟩:∃ ks,ks=w.heap.size+1:=⟨_,rfl⟩
 go_enter Tryz.func124,Tryz.ntmps124
 unfold stmtV
 go_wp2_with fail
 rw [<-hW]
 simp only [<-hks] at hK0 ⊢
 simp only [<-hkb] at hK0 ⊢
 clear hW hkb hks
 have p0:=hK0.p
 have c4_0:=hM0.cells.c4
 have hb5:5<=E.bits:=by rw [hb];unfold Al.bitsOf;(repeat' split)<;> omega
 have HT:∀ j:Nat,j<=E.bits->decide ((2:Int) ^ j<C.q)=decide (j<E.bits):=fun j hj=>by
  have:=mask_test hpr j (by rw [<-hb];exact hj)
  rw [<-hb,<-hE.q] at this
  exact this
 replace HT:=Lib.hid HT
 clear hb hpr
 go_loopg [4] (E.bits+1) (fun gk v4 w'=>∃ j:Nat,v4= .int .i64 (2 ^ j - 1)/\1<=j/\j+gk=E.bits+2/\j<=E.bits/\w'=W)
 case atStart=>exact⟨1,rfl,by omega,by omega,by omega,rfl⟩
 case round=>
  obtain⟨j,rfl,hj1,hj2,hj3,rfl⟩:=hrel
  have ht:=(show ∀ j:Nat,j<=E.bits->decide ((2:Int) ^ j<C.q)=decide (j<E.bits) from HT) j hj3
  by_cases hjl:j<E.bits
  ·rw [decide_eq_true hjl] at ht
   obtain⟨k1,rfl⟩:∃ k1,gk=k1+1:=⟨gk - 1,by omega⟩
   have hms:=mask_step ⟨j,by omega⟩
   dsimp only at hms
   go_wp2_with fail
   go_roundg k1
   case measure=>omega
   case rel=>exact⟨j+1,rfl,by omega,by omega,by omega,rfl⟩
  ·rw [decide_eq_false hjl] at ht
   have hje:j=E.bits:=by omega
   subst hje
   have ht2:¬((2:Int) ^ E.bits<C.q):=of_decide_eq_false ht
   have ht3:C.q<=(2:Int) ^ E.bits:=by omega
   have ht4:decide ((2:Int) ^ E.bits - 1<C.q - 1)=false:=decide_eq_false (by omega)
   go_wp2_with (first|(go_at_call 72;refine (constant_makes C _ 23 _ (by omega) _ _ _ _ hM0).mono ?_;rintro e w1 ⟨rfl,foot1,hM1,hC⟩;have hK1:=hK0.step hC;have hC1:=hC0.trans hC;clear hM0 hC0 hC hK0 p0 c4_0;have p_1:=hK1.p))
   obtain⟨bb,hbb⟩:∃ bb:Mk,bb=(b.app [Al.ci 1 23 0 0 0 (2 ^ E.bits - 1)]).app [Al.ci 1 9 0 0 0 0]:=⟨_,rfl⟩
   have hlb:bb.out.length=b.out.length+2:=by rw [hbb];simp
   have htb:bb.tapeOut=b.tapeOut:=by rw [hbb];rfl
   have HE:=each_gen (C:=C) (fun b2=>∃ vt',b2={ bb.app (Al.drawB E bb.out.length s.d.toNat 0) with tapeOut:=bb.tapeOut++[((bb.out.length+3:Nat):Int)],vt:=vt'}) hC hM1 (by simp;omega) (by rintro b2 ⟨vt',rfl⟩;simp [Mk.app,Al.drawB];omega) 172 [.pointer (some ⟨kb,0,none⟩),.pointer (some ⟨ks,0,none⟩)] Tryz.func172 (by kernel_rfl) rfl (fun w f=>Cap w f kb ks bp s x6 x7) hK1 (fun _ _ _ _ h c=>h.step c)
    (fun w1 foot1 hM hK=>by
     rw [<-hbb] at hM
     refine (draw_body hE hM hK vd (by omega) (by rw [htb];omega)).mono ?_
     rintro e w' ⟨rfl,foot',vt',hM',hC'⟩
     exact⟨rfl,foot',_,⟨vt',rfl⟩,hM',hC'⟩)
   refine HE.mono ?_
   rintro e w2 ⟨rfl,foot2,b2,⟨vt',rfl⟩,hM2,hC2⟩
   replace hC2:=hC1.trans hC2
   clear HE hM1 hC1
   go_wp2_with fail
   refine bodyPost_end (v:= .tuple #[]) (by simp [results,Tryz.results124,go_sem]) rfl ⟨rfl,foot2,vt',?_,hC2⟩
   subst hbb
   simpa [Mk.app,Al.ci,Al.eachC,hE.n,Int.add_assoc] using hM2
end Go.Proofs.YtkplfaionpplaaaGreatDoor
namespace Go.Proofs.YtkplfaionpplaaaGreatDoor.Al
mutual
theorem posTS_le (E:Env):∀ (s:Stmt) (deep p:Nat),(posTS E deep p s).length<=(genS E 0 0 deep p s).length
 |⟨op,d,a,b,e,k,body,els⟩,deep,p=>by
  unfold posTS genS
  have h1:=posTL_le E body (deep+1) (p+2)
  have h3:=posTL_le E body (deep+1) (p+1)
  have h2:=posTL_le E els (deep+1) (p+2+(genL E 0 0 (deep+1) (p+2) body).length+1)
  by_cases h14:op=14
  ·simp only [h14,if_true,List.length_append,List.length_cons,List.length_nil];omega
  ·by_cases h15:op=15
   ·simp only [h15,if_true,List.length_append,List.length_cons,List.length_nil];simp;omega
   ·by_cases h16:op=16
    ·simp only [h16,if_true,List.length_append,List.length_cons,List.length_nil];simp;omega
    ·simp only [h14,h15,h16,if_false]
     by_cases h13:op=13
     ·subst h13
      simp [vecC]
     ·simp [h13]
theorem posTL_le (E:Env):∀ (l:List Stmt) (deep p:Nat),(posTL E deep p l).length<=(genL E 0 0 deep p l).length
 |[],_,_=>by simp [posTL]
 |s :: l,deep,p=>by
  have h1:=posTS_le E s deep p
  have h2:=posTL_le E l deep (p+(genS E 0 0 deep p s).length)
  simp only [posTL,genL,List.length_append]
  omega
end
mutual
theorem posGS_le (E:Env):∀ (s:Stmt) (deep p:Nat),(posGS E deep p s).length<=(genS E 0 0 deep p s).length
 |⟨op,d,a,b,e,k,body,els⟩,deep,p=>by
  unfold posGS genS
  have h1:=posGL_le E body (deep+1) (p+2)
  have h3:=posGL_le E body (deep+1) (p+1)
  have h2:=posGL_le E els (deep+1) (p+2+(genL E 0 0 (deep+1) (p+2) body).length+1)
  by_cases h14:op=14
  ·simp only [h14,if_true,List.length_append,List.length_cons,List.length_nil];omega
  ·by_cases h15:op=15
   ·simp only [h15,if_true,List.length_append,List.length_cons,List.length_nil];simp;omega
   ·by_cases h16:op=16
    ·simp only [h16,if_true,List.length_append,List.length_cons,List.length_nil];simp;omega
    ·simp only [h14,h15,h16,if_false,List.length_nil];omega
theorem posGL_le (E:Env):∀ (l:List Stmt) (deep p:Nat),(posGL E deep p l).length<=(genL E 0 0 deep p l).length
 |[],_,_=>by simp [posGL]
 |s :: l,deep,p=>by
  have h1:=posGS_le E s deep p
  have h2:=posGL_le E l deep (p+(genS E 0 0 deep p s).length)
  simp only [posGL,genL,List.length_append]
  omega
end
theorem genL_append (E:Env)(T G:Nat)(deep:Nat):∀ (l m:List Stmt) (p:Nat),genL E T G deep p (l++m)=genL E T G deep p l++genL E T G deep (p+(genL E T G deep p l).length) m
 |[],m,p=>by simp [genL]
 |s :: l,m,p=>by
  simp only [List.cons_append,genL,List.append_assoc,List.length_append]
  rw [genL_append E T G deep l m _,Nat.add_assoc]
theorem posTL_append (E:Env)(deep:Nat):∀ (l m:List Stmt) (p:Nat),posTL E deep p (l++m)=posTL E deep p l++posTL E deep (p+(genL E 0 0 deep p l).length) m
 |[],m,p=>by simp [genL,posTL]
 |s :: l,m,p=>by
  simp only [List.cons_append,genL,posTL,List.append_assoc,List.length_append]
  rw [posTL_append E deep l m _,Nat.add_assoc]
theorem posGL_append (E:Env)(deep:Nat):∀ (l m:List Stmt) (p:Nat),posGL E deep p (l++m)=posGL E deep p l++posGL E deep (p+(genL E 0 0 deep p l).length) m
 |[],m,p=>by simp [genL,posGL]
 |s :: l,m,p=>by
  simp only [List.cons_append,genL,posGL,List.append_assoc,List.length_append]
  rw [posGL_append E deep l m _,Nat.add_assoc]
end Go.Proofs.YtkplfaionpplaaaGreatDoor.Al
