/- Part 6: B0, B1, B2, B3, B4. -/
import Derived.Test.YtkplfaionpplaaaGreatDoorK5
import Derived.Test.YtkplfaionpplaaaGreatDoorProg
import Derived.WalkSpells
import Derived.StillTactics
import Derived.OneCell
import Derived.Lib.Hide
import Derived.StillTailTactics
import Derived.IntWalk
set_option maxRecDepth 100000
set_option maxHeartbeats 6400000
set_option linter.unusedVariables false
set_option linter.unusedSimpArgs false
namespace Go.Proofs.YtkplfaionpplaaaGreatDoor
open Go.RowKit Go.Proofs.YtkplfaionpplaaaGreatDoorW.PrintWords
def rd_L4 (xs:List (List Int))(i:Int):(List Int):=xs.getD i.toNat ([]:List Int)
theorem at_L4 {w:World}{A:Option Addr}{n:Nat}{xs:List (List Int)}(h:Kd.C (Kd.slice 3 (Kd.int .i64)) w A n xs)(i:Int)(h0:0<=i)(h1:i<n):∃ ad A0 c0,A=some ad/\w.cell? (ad.add i.toNat)=some (.slice A0 (rd_L4 xs i).length c0)/\(rd_L4 xs i).length<=c0/\(Kd.int .i64).C w A0 (rd_L4 xs i).length (rd_L4 xs i):=by
 obtain⟨ad,c,e,_,hK,hc0⟩:=Kd.C_get h ([]:List Int) i h0 h1
 have hc:∀ j u,c[j]?=some u->w.cell? (ad.add (i.toNat * 1+j))=some u:=hc0
 obtain⟨A0,c0,rfl,l0,g0⟩:=hK
 exact⟨ad,A0,c0,e,by have hq:=hc 0 _ rfl;rwa [Nat.mul_one,Nat.add_zero] at hq,l0,g0⟩
def z_Var:Al.Var:=⟨(0:Int),false⟩
def kVar:Kd Al.Var:=Kd.iso (Kd.pair (Kd.int .i64) Kd.bool) (fun x:Al.Var=>(x.kind,x.secret))
theorem kVar_open {w:World}{x:Al.Var}{cs:List Value}(h:kVar.K w x cs):cs=[.int .i64 x.kind,.bool x.secret]:=by
 obtain⟨_,_,rfl,rfl,rfl⟩:=h
 exact rfl
theorem kVar_mk (w:World)(x:Al.Var):kVar.K w x [.int .i64 x.kind,.bool x.secret]:=⟨[.int .i64 x.kind],[.bool x.secret],rfl,rfl,rfl⟩
def rd_T901 (xs:List Al.Var)(i:Int):Al.Var:=xs.getD i.toNat z_Var
theorem at_T901 {w:World}{A:Option Addr}{n:Nat}{xs:List Al.Var}(h:Kd.C kVar w A n xs)(i:Int)(h0:0<=i)(h1:i<n):∃ ad ,A=some ad/\w.cell? (ad.add (i.toNat * 2))=some (.int .i64 (rd_T901 xs i).kind)/\w.cell? ⟨(ad.add (i.toNat * 2)).block,(ad.add (i.toNat * 2)).off+1,none⟩=some (.bool (rd_T901 xs i).secret):=by
 obtain⟨ad,c,e,_,hK,hc0⟩:=Kd.C_get h z_Var i h0 h1
 have hc:∀ j u,c[j]?=some u->w.cell? (ad.add (i.toNat * 2+j))=some u:=hc0
 obtain rfl:=kVar_open hK
 exact⟨ad,e,hc 0 _ rfl,by rw [<-add_field _ _ 1 (by omega)];exact hc 1 _ rfl⟩
def z_Stmt:Al.Stmt:=⟨(0:Int),(0:Int),(0:Int),(0:Int),(0:Int),(0:Int),([]:List Al.Stmt),([]:List Al.Stmt)⟩
def F_Stmt (d:Kd Al.Stmt):Kd Al.Stmt:=Kd.iso (Kd.pair (Kd.int .i64) (Kd.pair (Kd.int .i64) (Kd.pair (Kd.int .i64) (Kd.pair (Kd.int .i64) (Kd.pair (Kd.int .i64) (Kd.pair (Kd.int .i64) (Kd.pair (Kd.slice 66 d) (Kd.slice 66 d)))))))) (fun x:Al.Stmt=>(x.op,x.d,x.a,x.b,x.c,x.k,x.body,x.els))
theorem mono_Stmt:Kd.Mono F_Stmt:=Kd.mono_iso _ (Kd.mono_pair (Kd.mono_const _) (Kd.mono_pair (Kd.mono_const _) (Kd.mono_pair (Kd.mono_const _) (Kd.mono_pair (Kd.mono_const _) (Kd.mono_pair (Kd.mono_const _) (Kd.mono_pair (Kd.mono_const _) (Kd.mono_pair (Kd.mono_slice 66 Kd.mono_id) (Kd.mono_slice 66 Kd.mono_id))))))))
theorem sub_Stmt:Kd.Sub F_Stmt [66]:=Kd.sub_iso _ (Kd.sub_pair (Kd.sub_const _ (by decide)) (Kd.sub_pair (Kd.sub_const _ (by decide)) (Kd.sub_pair (Kd.sub_const _ (by decide)) (Kd.sub_pair (Kd.sub_const _ (by decide)) (Kd.sub_pair (Kd.sub_const _ (by decide)) (Kd.sub_pair (Kd.sub_const _ (by decide)) (Kd.sub_pair (Kd.sub_slice 66 (by decide) Kd.sub_id) (Kd.sub_slice 66 (by decide) Kd.sub_id))))))))
theorem sz_Stmt:∀ n,(Kd.upto F_Stmt 8 [66] n).sz=8:=Kd.upto_sz (fun _=>rfl)
def kStmt:Kd Al.Stmt:=Kd.fix F_Stmt 8 [66] sz_Stmt (Kd.upto_E sub_Stmt)
theorem kStmt_open {w:World}{x:Al.Stmt}{cs:List Value}(h:kStmt.K w x cs):∃ A6 c6 A7 c7,cs=[.int .i64 x.op,.int .i64 x.d,.int .i64 x.a,.int .i64 x.b,.int .i64 x.c,.int .i64 x.k,.slice A6 x.body.length c6,.slice A7 x.els.length c7]/\x.body.length<=c6/\kStmt.C w A6 x.body.length x.body/\x.els.length<=c7/\kStmt.C w A7 x.els.length x.els:=by
 obtain⟨n,h⟩:=h
 cases n with
 |zero=>exact h.elim
 |succ n=>
  obtain⟨_,_,rfl,rfl,⟨_,_,rfl,rfl,⟨_,_,rfl,rfl,⟨_,_,rfl,rfl,⟨_,_,rfl,rfl,⟨_,_,rfl,rfl,⟨_,_,rfl,⟨A6,c6,rfl,l6,g6⟩,⟨A7,c7,rfl,l7,g7⟩⟩⟩⟩⟩⟩⟩⟩:=h
  exact⟨A6,c6,A7,c7,rfl,l6,Kd.fix_C g6,l7,Kd.fix_C g7⟩
theorem kStmt_mk (w:World)(x:Al.Stmt){A6:Option Addr}{c6:Nat}(l6:x.body.length<=c6)(g6:kStmt.C w A6 x.body.length x.body){A7:Option Addr}{c7:Nat}(l7:x.els.length<=c7)(g7:kStmt.C w A7 x.els.length x.els):kStmt.K w x [.int .i64 x.op,.int .i64 x.d,.int .i64 x.a,.int .i64 x.b,.int .i64 x.c,.int .i64 x.k,.slice A6 x.body.length c6,.slice A7 x.els.length c7]:=by
 obtain⟨n6,q6⟩:=Kd.fix_C_back mono_Stmt g6
 obtain⟨n7,q7⟩:=Kd.fix_C_back mono_Stmt g7
 have r6:=Kd.upto_C_le mono_Stmt sz_Stmt (show n6<=(max n6 n7) by omega) q6
 have r7:=Kd.upto_C_le mono_Stmt sz_Stmt (show n7<=(max n6 n7) by omega) q7
 exact⟨(max n6 n7)+1,⟨[.int .i64 x.op],[.int .i64 x.d,.int .i64 x.a,.int .i64 x.b,.int .i64 x.c,.int .i64 x.k,.slice A6 x.body.length c6,.slice A7 x.els.length c7],rfl,rfl,⟨[.int .i64 x.d],[.int .i64 x.a,.int .i64 x.b,.int .i64 x.c,.int .i64 x.k,.slice A6 x.body.length c6,.slice A7 x.els.length c7],rfl,rfl,⟨[.int .i64 x.a],[.int .i64 x.b,.int .i64 x.c,.int .i64 x.k,.slice A6 x.body.length c6,.slice A7 x.els.length c7],rfl,rfl,⟨[.int .i64 x.b],[.int .i64 x.c,.int .i64 x.k,.slice A6 x.body.length c6,.slice A7 x.els.length c7],rfl,rfl,⟨[.int .i64 x.c],[.int .i64 x.k,.slice A6 x.body.length c6,.slice A7 x.els.length c7],rfl,rfl,⟨[.int .i64 x.k],[.slice A6 x.body.length c6,.slice A7 x.els.length c7],rfl,rfl,⟨[.slice A6 x.body.length c6],[.slice A7 x.els.length c7],rfl,⟨A6,c6,rfl,l6,r6⟩,⟨A7,c7,rfl,l7,r7⟩⟩⟩⟩⟩⟩⟩⟩⟩
def rd_T902 (xs:List Al.Stmt)(i:Int):Al.Stmt:=xs.getD i.toNat z_Stmt
theorem at_T902 {w:World}{A:Option Addr}{n:Nat}{xs:List Al.Stmt}(h:Kd.C kStmt w A n xs)(i:Int)(h0:0<=i)(h1:i<n):∃ ad A6 c6 A7 c7,A=some ad/\w.cell? (ad.add (i.toNat * 8))=some (.int .i64 (rd_T902 xs i).op)/\w.cell? ⟨(ad.add (i.toNat * 8)).block,(ad.add (i.toNat * 8)).off+1,none⟩=some (.int .i64 (rd_T902 xs i).d)/\w.cell? ⟨(ad.add (i.toNat * 8)).block,(ad.add (i.toNat * 8)).off+2,none⟩=some (.int .i64 (rd_T902 xs i).a)/\w.cell? ⟨(ad.add (i.toNat * 8)).block,(ad.add (i.toNat * 8)).off+3,none⟩=some (.int .i64 (rd_T902 xs i).b)/\w.cell? ⟨(ad.add (i.toNat * 8)).block,(ad.add (i.toNat * 8)).off+4,none⟩=some (.int .i64 (rd_T902 xs i).c)/\w.cell? ⟨(ad.add (i.toNat * 8)).block,(ad.add (i.toNat * 8)).off+5,none⟩=some (.int .i64 (rd_T902 xs i).k)/\w.cell? ⟨(ad.add (i.toNat * 8)).block,(ad.add (i.toNat * 8)).off+6,none⟩=some (.slice A6 (rd_T902 xs i).body.length c6)/\w.cell? ⟨(ad.add (i.toNat * 8)).block,(ad.add (i.toNat * 8)).off+7,none⟩=some (.slice A7 (rd_T902 xs i).els.length c7)/\(rd_T902 xs i).body.length<=c6/\kStmt.C w A6 (rd_T902 xs i).body.length (rd_T902 xs i).body/\(rd_T902 xs i).els.length<=c7/\kStmt.C w A7 (rd_T902 xs i).els.length (rd_T902 xs i).els:=by
 obtain⟨ad,c,e,_,hK,hc0⟩:=Kd.C_get h z_Stmt i h0 h1
 have hc:∀ j u,c[j]?=some u->w.cell? (ad.add (i.toNat * 8+j))=some u:=hc0
 obtain⟨A6,c6,A7,c7,rfl,l6,g6,l7,g7⟩:=kStmt_open hK
 exact⟨ad,A6,c6,A7,c7,e,hc 0 _ rfl,by rw [<-add_field _ _ 1 (by omega)];exact hc 1 _ rfl,by rw [<-add_field _ _ 2 (by omega)];exact hc 2 _ rfl,by rw [<-add_field _ _ 3 (by omega)];exact hc 3 _ rfl,by rw [<-add_field _ _ 4 (by omega)];exact hc 4 _ rfl,by rw [<-add_field _ _ 5 (by omega)];exact hc 5 _ rfl,by rw [<-add_field _ _ 6 (by omega)];exact hc 6 _ rfl,by rw [<-add_field _ _ 7 (by omega)];exact hc 7 _ rfl,l6,g6,l7,g7⟩
end Go.Proofs.YtkplfaionpplaaaGreatDoor
namespace Go.Proofs.YtkplfaionpplaaaGreatDoor
open Go.RowKit Go.Proofs.YtkplfaionpplaaaGreatDoorW.PrintLast
def instCells (i:Al.Inst):List Value:=[.int .i64 i.op,.int .i64 i.d,.int .i64 i.a,.int .i64 i.b,.int .i64 i.c,.int .i64 i.k]
def spanCells (s:Al.Span):List Value:=[.int .i64 s.low,.int .i64 s.high]
def instsV (l:List Al.Inst):List Value:=l.flatMap instCells
def spansV (l:List Al.Span):List Value:=l.flatMap spanCells
def intsV (l:List Int):List Value:=l.map (Value.int .i64)
theorem instsV_snoc (l:List Al.Inst)(i:Al.Inst):instsV (l++[i])=instsV l++instCells i:=by simp [instsV]
theorem spansV_snoc (l:List Al.Span)(i:Al.Span):spansV (l++[i])=spansV l++spanCells i:=by simp [spansV]
structure Mk where
 out:List Al.Inst
 spans:List Al.Span
 tapeOut:List Int
 givenUp:List Int
 vt:Value
 vg:Value
def Mk.put (b:Mk)(i:Al.Inst):Mk:={ b with out:=b.out++[i],spans:=b.spans++[Al.allSpan]}
structure MkC where
 q:Int
 n:Int
 nv:Nat
 va:Option Addr
 vcap:Nat
 sb:Value
 scratch:Int
def MkC.sv (C:MkC):Value:= .slice C.va C.nv C.vcap
def MkC.blk (C:MkC)(vo vs vt vg:Value):Obj:= .cells #[.int .i64 C.q,.int .i64 C.n,C.sv,C.sb,.int .i64 C.q,.int .i64 C.n,vo,vs,.int .i64 C.scratch,vt,vg] 99 (0,0)
structure Chg (w w':World)(foot foot':Nat->Prop):Prop where
 os:w'.os=w.os
 tape:w'.tape=w.tape
 output:w'.output=w.output
 size:w.heap.size<=w'.heap.size
 keep:∀ k,k<w.heap.size->¬foot k->w'.heap[k]?=w.heap[k]?
 foot:∀ k,foot' k->foot k\/w.heap.size<=k
theorem Chg.refl (w:World)(foot:Nat->Prop):Chg w w foot foot:=⟨rfl,rfl,rfl,Nat.le_refl _,fun _ _ _=>rfl,fun _ h=> .inl h⟩
theorem Chg.trans {a b c:World}{f g h:Nat->Prop}(x:Chg a b f g)(y:Chg b c g h):Chg a c f h:=
 ⟨y.os.trans x.os,y.tape.trans x.tape,y.output.trans x.output,Nat.le_trans x.size y.size,
  fun k hk hn=>(y.keep k (Nat.lt_of_lt_of_le hk x.size) (fun hg=>by rcases x.foot k hg with hf|hf;exact hn hf;omega)).trans (x.keep k hk hn),
  fun k hk=>by rcases y.foot k hk with hg|hg;exact x.foot k hg;have:=x.size;exact .inr (by omega)⟩
theorem Chg.below {w w':World}{f g:Nat->Prop}{base:Nat}(h:Chg w w' f g)(hf:∀ k,f k->base<=k)(hb:base<=w.heap.size):Below base w w':=
 ⟨h.os,h.tape,h.output,h.size,fun k hk=>h.keep k (by omega) (fun hh=>by have:=hf k hh;omega)⟩
def inRow (v:Value)(k:Nat):Prop:=v.ownBlock=some k
def Maker (w:World)(base:Nat)(foot:Nat->Prop)(bp:Nat)(C:MkC)(b:Mk):Prop:=
 ∃ vo vs vt vg,w.heap[bp]?=some (C.blk vo vs vt vg)/\w.ownsRow base 97 6 vo b.out.length (instsV b.out)/\w.ownsRow base 108 2 vs b.spans.length (spansV b.spans)/\
  w.ownsRow base 3 1 vt b.tapeOut.length (intsV b.tapeOut)/\w.ownsRow base 3 1 vg b.givenUp.length (intsV b.givenUp)/\(vt.ownBlock=none\/vt.ownBlock≠vg.ownBlock)/\
  base<=bp/\b.spans.length=b.out.length/\foot bp/\(∀ k,inRow vo k\/inRow vs k\/inRow vt k\/inRow vg k->foot k)/\(∀ k,foot k->base<=k/\k<w.heap.size)/\vt=b.vt/\vg=b.vg
theorem Tryz.infoInst:(Tryz.prog.info? 97).map (fun i=>(i.zero,i.size,i.bytes))=some (some (.agg #[.int .i64 0,.int .i64 0,.int .i64 0,.int .i64 0,.int .i64 0,.int .i64 0]),6,48):=by kernel_rfl
theorem Tryz.infoSpan:(Tryz.prog.info? 108).map (fun i=>(i.zero,i.size,i.bytes))=some (some (.agg #[.int .i64 0,.int .i64 0]),2,16):=by kernel_rfl
theorem Tryz.infoInt:(Tryz.prog.info? 3).map (fun i=>(i.zero,i.size,i.bytes))=some (some (.int .i64 0),1,8):=by kernel_rfl
theorem all_any (w:World):Calls Tryz.prog 125 #[] w fun e w'=>e= .returned (.agg #[.int .i64 (-9223372036854775808),.int .i64 9223372036854775807])/\Below w.heap.size w w':=by
 go_enter Tryz.func125,Tryz.ntmps125
 go_wp2
 exact bodyPost_ret (v:= .agg #[.int .i64 (-9223372036854775808),.int .i64 9223372036854775807]) (by simp [results,Tryz.results125,go_sem]) rfl ⟨rfl,(Below.refl _ _).alloc (Nat.le_refl _) _⟩
theorem frozen_blk {w:World}{bp:Nat}{c:Array Value}{t:TypeId}(h:w.heap[bp]?=some (.cells c t (0,0)))(j:Nat):w.frozen? ⟨bp,j,none⟩=false:=by simp [World.frozen?,h]
theorem cell_blk {w:World}{bp:Nat}{c:Array Value}{t:TypeId}{f:Nat×Nat}(h:w.heap[bp]?=some (.cells c t f))(j:Nat):w.cell? ⟨bp,j,none⟩=c[j]?:=by simp [World.cell?,h]
theorem own_of {w w':World}{base:Nat}{e:TypeId}{size:Nat}{v:Value}{n:Nat}{xs:List Value}(h:w.ownsRow base e size v n xs)(hk:∀ k,v.ownBlock=some k->w'.heap[k]?=w.heap[k]?):w'.ownsRow base e size v n xs:=by
 refine⟨h.1,?_⟩
 rcases h.2 with h0|⟨g,cap,cur,rfl,h1,h2,h3⟩
 ·exact .inl h0
 ·exact .inr ⟨g,cap,cur,rfl,h1,(hk g rfl).trans h2,h3⟩
theorem own_type {w:World}{base:Nat}{e:TypeId}{size:Nat}{v:Value}{n:Nat}{xs:List Value}(h:w.ownsRow base e size v n xs){k:Nat}(hk:v.ownBlock=some k):∃ c,w.heap[k]?=some (.cells c e (0,0)):=by
 rcases h.2 with⟨rfl,_⟩|⟨g,cap,cur,rfl,h1,h2,h3⟩
 ·cases hk
 ·cases hk;exact⟨cur,h2⟩
theorem own_ne_blk {w:World}{base:Nat}{e t:TypeId}{size:Nat}{v:Value}{n:Nat}{xs:List Value}{k:Nat}{c:Array Value}{f:Nat×Nat}(h:w.ownsRow base e size v n xs)(hb:w.heap[k]?=some (.cells c t f))(ht:t≠e):v.ownBlock≠some k:=by
 intro hk
 obtain⟨c',h'⟩:=own_type h hk
 rw [hb] at h'
 cases h'
 exact ht rfl
theorem own_ne {w:World}{base base':Nat}{e e':TypeId}{size size':Nat}{v v':Value}{n n':Nat}{xs xs':List Value}(h:w.ownsRow base e size v n xs)(h':w.ownsRow base' e' size' v' n' xs')(ht:e'≠e):v.ownBlock=none\/v.ownBlock≠v'.ownBlock:=by
 cases hk:v'.ownBlock with
 |none=>
  by_cases hv:v.ownBlock=none
  ·exact .inl hv
  ·exact .inr hv
 |some k=>obtain⟨c,hc⟩:=own_type h' hk;exact .inr (own_ne_blk h hc ht)
theorem alloc_blk {w:World}{k:Nat}{x:Obj}(o:Obj)(h:w.heap[k]?=some x):(w.alloc o).heap[k]?=some x:=by
 rw [heap_alloc_old _ _ (Array.getElem?_eq_some_iff.1 h).1];exact h
theorem grow_blk {w w':World}{row:Option Nat}{k:Nat}{x:Obj}(hg:w.grownBy w' row)(h:w.heap[k]?=some x)(hne:row≠some k):w'.heap[k]?=some x:=by
 rw [hg.block k (Array.getElem?_eq_some_iff.1 h).1 (Ne.symm hne)];exact h
theorem below_blk {w w':World}{B k:Nat}{x:Obj}(hg:Below B w w')(h:w.heap[k]?=some x)(hk:k<B):w'.heap[k]?=some x:=by
 rw [hg.block k hk];exact h
theorem blk_lt {w:World}{k:Nat}{x:Obj}(h:w.heap[k]?=some x):k<w.heap.size:=(Array.getElem?_eq_some_iff.1 h).1
theorem set_blk {w:World}{bp:Nat}{c:Array Value}{t:TypeId}{f:Nat×Nat}(h:w.heap[bp]?=some (.cells c t f))(j:Nat)(u:Value):(w.setCell ⟨bp,j,none⟩ u).heap[bp]?=some (.cells (c.setIfInBounds j u) t f):=by
 simp [World.setCell,Array.getElem?_modify,h]
theorem set_blk_ne {w:World}{bp k:Nat}(j:Nat)(u:Value)(hk:k≠bp):(w.setCell ⟨bp,j,none⟩ u).heap[k]?=w.heap[k]?:=Below.heap_setCell _ _ _ _ hk
theorem set_size (w:World)(a:Addr)(u:Value):(w.setCell a u).heap.size=w.heap.size:=by simp [World.setCell]
theorem put_any {w:World}{base bp:Nat}{foot:Nat->Prop}{C:MkC}{b:Mk}(hM:Maker w base foot bp C b)(i:Al.Inst)(hlen:b.out.length<1000000):
  Calls Tryz.prog 77 #[.pointer (some ⟨bp,0,none⟩),.agg #[.int .i64 i.op,.int .i64 i.d,.int .i64 i.a,.int .i64 i.b,.int .i64 i.c,.int .i64 i.k]] w fun e w'=>e= .returned (.int .i64 b.out.length)/\
   ∃ foot',Maker w' base foot' bp C (b.put i)/\Chg w w' foot foot':=by
 obtain⟨vo,vs,vt,vg,hblk,ho,hs,ht,hg,hne,hbb,hl,hfb,hfr,hf,hvt,hvg⟩:=hM
 have ho0:=ho
 have hs0:=hs
 obtain⟨i0,hi0,hz0,hz1,hz2⟩:=info_parts Tryz.infoInst
 obtain⟨j0,hj0,jz0,jz1,jz2⟩:=info_parts Tryz.infoSpan
 go_enter Tryz.func77,Tryz.ntmps77
 go_wp2_with fail
 obtain⟨W,hW⟩:∃ W,W=w.alloc (.cells #[.int .i64 i.op,.int .i64 i.d,.int .i64 i.a,.int .i64 i.b,.int .i64 i.c,.int .i64 i.k] 97):=⟨_,rfl⟩
 rw [<-hW]
 have hWs:W.heap.size=w.heap.size+1:=by rw [hW];simp
 have ho:W.ownsRow base 97 6 vo b.out.length (instsV b.out):=by rw [hW];exact ho.alloc _
 have hs:W.ownsRow base 108 2 vs b.spans.length (spansV b.spans):=by rw [hW];exact hs.alloc _
 have ht:W.ownsRow base 3 1 vt b.tapeOut.length (intsV b.tapeOut):=by rw [hW];exact ht.alloc _
 have hg:W.ownsRow base 3 1 vg b.givenUp.length (intsV b.givenUp):=by rw [hW];exact hg.alloc _
 have b0:W.heap[w.heap.size]?=some (.cells #[.int .i64 i.op,.int .i64 i.d,.int .i64 i.a,.int .i64 i.b,.int .i64 i.c,.int .i64 i.k] 97 (0,0)):=by rw [hW];exact heap_alloc_new w _
 have hblk:W.heap[bp]?=some (C.blk vo vs vt vg):=by rw [hW];exact alloc_blk _ hblk
 have nob:vo.ownBlock≠some bp:=own_ne_blk ho hblk (by decide)
 have nsb:vs.ownBlock≠some bp:=own_ne_blk hs hblk (by decide)
 have noB:vo.ownBlock≠some w.heap.size:=fun h=>by have:=(ho0.lt _ h).2;omega
 have nsB:vs.ownBlock≠some w.heap.size:=fun h=>by have:=(hs0.lt _ h).2;omega
 have hbB:bp<w.heap.size:=(hf bp hfb).2
 have hBW:w.heap.size<W.heap.size:=by omega
 have hWb:base<=W.heap.size:=by omega
 have HW:=Lib.hid hW
 have HWs:=Lib.hid hWs
 have HL:=Lib.hid hl
 clear hW hWs hl
 refine start_ (n:=22) (S:=fun w'=>w'.heap[bp]?=some (C.blk vo vs vt vg)/\w'.heap[w.heap.size]?=some (.cells #[.int .i64 i.op,.int .i64 i.d,.int .i64 i.a,.int .i64 i.b,.int .i64 i.c,.int .i64 i.k] 97 (0,0))) (ds:=[15,18,21]) #[false,false,false,false,false,false,false,false,false,false,false,false,false,false,false,false,false,false,false,false,false,false] (by kernel_rfl) rfl rfl ⟨hblk,b0⟩ (fun hHeld=>?_)
 refine pure_ (i:=0) (N:=some 5) (v:=?_) (a':=?_) #[true,false,false,false,false,false,false,false,false,false,false,false,false,false,false,false,false,false,false,false,false,false] rfl rfl (by kernel_rfl) (fun _ _ _ h=>h) (Or.inl ⟨by rfl,?_⟩) ?_ ?_
 rotate_left
 ·intro w'
  go_simp
  with_reducible rfl
 rotate_left
 ·simp only [Act.put,List.setIfInBounds_toArray,List.set_cons_zero,List.set_cons_succ,i64_w,i32_w]
  rfl
 refine pure_ (i:=1) (N:=some 6) (v:=?_) (a':=?_) #[true,true,false,false,false,false,false,false,false,false,false,false,false,false,false,false,false,false,false,false,false,false] rfl rfl (by kernel_rfl) (fun _ _ _ h=>h) (Or.inl ⟨by rfl,?_⟩) ?_ ?_
 rotate_left
 ·intro w'
  go_simp
  with_reducible rfl
 rotate_left
 ·simp only [Act.put,List.setIfInBounds_toArray,List.set_cons_zero,List.set_cons_succ,i64_w,i32_w]
  rfl
 refine pure_ (i:=2) (N:=some 7) (v:=?_) (a':=?_) #[true,true,true,false,false,false,false,false,false,false,false,false,false,false,false,false,false,false,false,false,false,false] rfl rfl (by kernel_rfl) (fun _ _ _ h=>h) (Or.inl ⟨by rfl,?_⟩) ?_ ?_
 rotate_left
 ·intro w'
  go_simp
  with_reducible rfl
 rotate_left
 ·simp only [Act.put,List.setIfInBounds_toArray,List.set_cons_zero,List.set_cons_succ,i64_w,i32_w]
  rfl
 refine pure_ (i:=3) (N:=some 8) (v:=?_) (a':=?_) #[true,true,true,true,false,false,false,false,false,false,false,false,false,false,false,false,false,false,false,false,false,false] rfl rfl (by kernel_rfl) (fun _ _ _ h=>h) (Or.inl ⟨by rfl,?_⟩) ?_ ?_
 rotate_left
 ·intro w'
  go_simp
  with_reducible rfl
 rotate_left
 ·simp only [Act.put,List.setIfInBounds_toArray,List.set_cons_zero,List.set_cons_succ,i64_w,i32_w]
  rfl
 refine pure_ (i:=4) (N:=some 9) (v:=?_) (a':=?_) #[true,true,true,true,true,false,false,false,false,false,false,false,false,false,false,false,false,false,false,false,false,false] rfl rfl (by kernel_rfl) (fun _ _ _ h=>h) (Or.inl ⟨by rfl,?_⟩) ?_ ?_
 rotate_left
 ·intro w'
  go_simp
  with_reducible rfl
 rotate_left
 ·simp only [Act.put,List.setIfInBounds_toArray,List.set_cons_zero,List.set_cons_succ,i64_w,i32_w]
  rfl
 refine pure_ (i:=9) (N:=some 14) (v:=?_) (a':=?_) #[true,true,true,true,true,false,false,false,false,true,false,false,false,false,false,false,false,false,false,false,false,false] rfl rfl (by kernel_rfl) (fun _ _ _ h=>h) (Or.inl ⟨by rfl,?_⟩) ?_ ?_
 rotate_left
 ·intro w'
  go_simp
  with_reducible rfl
 rotate_left
 ·simp only [Act.put,List.setIfInBounds_toArray,List.set_cons_zero,List.set_cons_succ,i64_w,i32_w]
  rfl
 refine pure_ (i:=10) (N:=some 15) (v:=?_) (a':=?_) #[true,true,true,true,true,false,false,false,false,true,true,false,false,false,false,false,false,false,false,false,false,false] rfl rfl (by kernel_rfl) (fun _ _ _ h=>h) (Or.inl ⟨by rfl,?_⟩) ?_ ?_
 rotate_left
 ·intro w'
  go_simp
  with_reducible rfl
 rotate_left
 ·simp only [Act.put,List.setIfInBounds_toArray,List.set_cons_zero,List.set_cons_succ,i64_w,i32_w]
  rfl
 refine pure_ (i:=11) (N:=some 16) (v:=?_) (a':=?_) #[true,true,true,true,true,false,false,false,false,true,true,true,false,false,false,false,false,false,false,false,false,false] rfl rfl (by kernel_rfl) (fun _ _ _ h=>h) (Or.inl ⟨by rfl,?_⟩) ?_ ?_
 rotate_left
 ·intro w'
  go_simp
  with_reducible rfl
 rotate_left
 ·simp only [Act.put,List.setIfInBounds_toArray,List.set_cons_zero,List.set_cons_succ,i64_w,i32_w]
  rfl
 refine take_ (i:=5) (N:=some 10) (v:=?_) (a':=?_) #[true,true,true,true,true,true,false,false,false,true,true,true,false,false,false,false,false,false,false,false,false,false] rfl rfl (by kernel_rfl) (fun _ _ _ h=>h) (Or.inl ⟨by rfl,?_⟩) hHeld ?_ ?_
 rotate_left
 ·rintro w' ⟨s0,s1⟩
  have e3:w'.cell? ⟨bp,6,none⟩=some vo:=by rw [cell_blk s0];rfl
  have e4:w'.cell? ⟨bp,7,none⟩=some vs:=by rw [cell_blk s0];rfl
  have e0:=s1
  clear s0 s1
  have d0:w'.cell? ⟨w.heap.size,0,none⟩=some (.int .i64 i.op):=by rw [cell_blk e0];rfl
  have d1:w'.cell? ⟨w.heap.size,1,none⟩=some (.int .i64 i.d):=by rw [cell_blk e0];rfl
  have d2:w'.cell? ⟨w.heap.size,2,none⟩=some (.int .i64 i.a):=by rw [cell_blk e0];rfl
  have d3:w'.cell? ⟨w.heap.size,3,none⟩=some (.int .i64 i.b):=by rw [cell_blk e0];rfl
  have d4:w'.cell? ⟨w.heap.size,4,none⟩=some (.int .i64 i.c):=by rw [cell_blk e0];rfl
  have d5:w'.cell? ⟨w.heap.size,5,none⟩=some (.int .i64 i.k):=by rw [cell_blk e0];rfl
  clear e0
  go_simp
  with_reducible rfl
 rotate_left
 ·simp only [Act.put,List.setIfInBounds_toArray,List.set_cons_zero,List.set_cons_succ,i64_w,i32_w]
  rfl
 refine take_ (i:=6) (N:=some 11) (v:=?_) (a':=?_) #[true,true,true,true,true,true,true,false,false,true,true,true,false,false,false,false,false,false,false,false,false,false] rfl rfl (by kernel_rfl) (fun _ _ _ h=>h) (Or.inl ⟨by rfl,?_⟩) hHeld ?_ ?_
 rotate_left
 ·rintro w' ⟨s0,s1⟩
  have e3:w'.cell? ⟨bp,6,none⟩=some vo:=by rw [cell_blk s0];rfl
  have e4:w'.cell? ⟨bp,7,none⟩=some vs:=by rw [cell_blk s0];rfl
  have e0:=s1
  clear s0 s1
  have d0:w'.cell? ⟨w.heap.size,0,none⟩=some (.int .i64 i.op):=by rw [cell_blk e0];rfl
  have d1:w'.cell? ⟨w.heap.size,1,none⟩=some (.int .i64 i.d):=by rw [cell_blk e0];rfl
  have d2:w'.cell? ⟨w.heap.size,2,none⟩=some (.int .i64 i.a):=by rw [cell_blk e0];rfl
  have d3:w'.cell? ⟨w.heap.size,3,none⟩=some (.int .i64 i.b):=by rw [cell_blk e0];rfl
  have d4:w'.cell? ⟨w.heap.size,4,none⟩=some (.int .i64 i.c):=by rw [cell_blk e0];rfl
  have d5:w'.cell? ⟨w.heap.size,5,none⟩=some (.int .i64 i.k):=by rw [cell_blk e0];rfl
  clear e0
  go_simp
  with_reducible rfl
 rotate_left
 ·simp only [Act.put,List.setIfInBounds_toArray,List.set_cons_zero,List.set_cons_succ,i64_w,i32_w]
  rfl
 refine take_ (i:=12) (N:=some 17) (v:=?_) (a':=?_) #[true,true,true,true,true,true,true,false,false,true,true,true,true,false,false,false,false,false,false,false,false,false] rfl rfl (by kernel_rfl) (fun _ _ _ h=>h) (Or.inl ⟨by rfl,?_⟩) hHeld ?_ ?_
 rotate_left
 ·rintro w' ⟨s0,s1⟩
  have e3:w'.cell? ⟨bp,6,none⟩=some vo:=by rw [cell_blk s0];rfl
  have e4:w'.cell? ⟨bp,7,none⟩=some vs:=by rw [cell_blk s0];rfl
  have e0:=s1
  clear s0 s1
  have d0:w'.cell? ⟨w.heap.size,0,none⟩=some (.int .i64 i.op):=by rw [cell_blk e0];rfl
  have d1:w'.cell? ⟨w.heap.size,1,none⟩=some (.int .i64 i.d):=by rw [cell_blk e0];rfl
  have d2:w'.cell? ⟨w.heap.size,2,none⟩=some (.int .i64 i.a):=by rw [cell_blk e0];rfl
  have d3:w'.cell? ⟨w.heap.size,3,none⟩=some (.int .i64 i.b):=by rw [cell_blk e0];rfl
  have d4:w'.cell? ⟨w.heap.size,4,none⟩=some (.int .i64 i.c):=by rw [cell_blk e0];rfl
  have d5:w'.cell? ⟨w.heap.size,5,none⟩=some (.int .i64 i.k):=by rw [cell_blk e0];rfl
  clear e0
  go_simp
  with_reducible rfl
 rotate_left
 ·simp only [Act.put,List.setIfInBounds_toArray,List.set_cons_zero,List.set_cons_succ,i64_w,i32_w]
  rfl
 refine one_ (i:=7) (N:=some 12) #[true,true,true,true,true,true,true,true,false,true,true,true,true,false,false,false,false,false,false,false,false,false] rfl rfl (by kernel_rfl) (by decide) (fun K hK=>?_)
 go_simp
 refine hK.out _ _ ⟨alloc_blk _ hblk,alloc_blk _ b0⟩ (fun hHeld=>?_)
 clear hK K
 refine one_ (i:=8) (N:=some 13) #[true,true,true,true,true,true,true,true,true,true,true,true,true,false,false,false,false,false,false,false,false,false] rfl rfl (by kernel_rfl) (by decide) (fun K hK=>?_)
 refine step_append_lies _ (by rfl) (.tmp 10) (.tmp 12) _ (by rfl) base 97 i0 _ 6 48 Tryz.underlying39 hi0 hz0 hz1 hz2 rfl (by omega) vo b.out.length (instsV b.out) (by rfl) ((ho.alloc _).drew)
  ⟨W.heap.size,0,none⟩ 1 1 (instCells i) (by rfl) (by rfl) (World.news_of_block (cs:= #[.int .i64 i.op,.int .i64 i.d,.int .i64 i.a,.int .i64 i.b,.int .i64 i.c,.int .i64 i.k]) (t:=97) (fr:=(0,0)) (heap_alloc_new W _)) (by simp [instCells,Value.oneCell'])
  (by omega) (by unfold maxLen;omega) (by omega) (by simp<;> omega) (W.heap.size+1) (by simp) ?_
 intro gg cap w1 hown1 hgrow hat hlt
 have hs1:w1.ownsRow base 108 2 vs b.spans.length (spansV b.spans):=(hs.alloc _).drew.kept hgrow (own_ne hs ho (by decide))
 have ht1:w1.ownsRow base 3 1 vt b.tapeOut.length (intsV b.tapeOut):=(ht.alloc _).drew.kept hgrow (own_ne ht ho (by decide))
 have hg1:w1.ownsRow base 3 1 vg b.givenUp.length (intsV b.givenUp):=(hg.alloc _).drew.kept hgrow (own_ne hg ho (by decide))
 refine hK.out _ _ ⟨grow_blk hgrow hHeld.1 nob,grow_blk hgrow hHeld.2 noB⟩ (fun hHeld=>?_)
 clear hK K
 refine norm_ (a':=?_) ?_ ?_
 rotate_left
 ·show Act.put _ (some 13) _=_
  simp only [Act.put,List.setIfInBounds_toArray,List.set_cons_zero,List.set_cons_succ,i64_w,i32_w]
  rfl
 refine one_ (i:=13) (N:=some 18) #[true,true,true,true,true,true,true,true,true,true,true,true,true,true,false,false,false,false,false,false,false,false] rfl rfl (by kernel_rfl) (by decide) (fun K hK=>?_)
 refine goes_ Tryz.func125 (by kernel_rfl) rfl #[] (by rfl) rfl rfl (by simp) ?_
 with_reducible refine (all_any _).mono ?_
 rintro e w3 ⟨rfl,hb⟩
 have ho3:=own_of hown1 fun k hk=>hb.block k (hown1.lt k hk).2
 have hs3:=own_of hs1 fun k hk=>hb.block k (hs1.lt k hk).2
 have ht3:=own_of ht1 fun k hk=>hb.block k (ht1.lt k hk).2
 have hg3:=own_of hg1 fun k hk=>hb.block k (hg1.lt k hk).2
 refine⟨_,rfl,?_⟩
 refine hK.out _ _ ⟨below_blk hb hHeld.1 (blk_lt hHeld.1),below_blk hb hHeld.2 (blk_lt hHeld.2)⟩ (fun hHeld=>?_)
 clear hK K
 refine norm_ (a':=?_) ?_ ?_
 rotate_left
 ·show Act.put _ (some 18) _=_
  simp only [Act.put,List.setIfInBounds_toArray,List.set_cons_zero,List.set_cons_succ,i64_w,i32_w]
  rfl
 refine one_ (i:=14) (N:=some 19) #[true,true,true,true,true,true,true,true,true,true,true,true,true,true,true,false,false,false,false,false,false,false] rfl rfl (by kernel_rfl) (by decide) (fun K hK=>?_)
 go_simp
 refine hK.out _ _ ⟨alloc_blk _ hHeld.1,alloc_blk _ hHeld.2⟩ (fun hHeld=>?_)
 clear hK K
 refine last_ (i:=15) (N:=some 20) #[true,true,true,true,true,true,true,true,true,true,true,true,true,true,true,true,false,false,false,false,false,false] rfl rfl (by kernel_rfl) (by decide) (fun K hK=>?_)
 refine step_append_lies _ (by rfl) (.tmp 17) (.tmp 19) _ (by rfl) base 108 j0 _ 2 16 Tryz.underlying42 hj0 jz0 jz1 jz2 rfl (by omega) vs b.spans.length (spansV b.spans) (by rfl) (hs3.alloc _)
  ⟨w3.heap.size,0,none⟩ 1 1 (spanCells Al.allSpan) (by rfl) (by rfl) (World.news_of_block (cs:= #[.int .i64 (-9223372036854775808),.int .i64 9223372036854775807]) (t:=108) (fr:=(0,0)) (heap_alloc_new w3 _)) (by simp [spanCells,Value.oneCell'])
  (by omega) (by have hll:b.spans.length=b.out.length:=HL;unfold maxLen;omega) (by have hll:b.spans.length=b.out.length:=HL;omega) (by have h1:=hb.size;have h2:=hgrow.size;simp at h2 ⊢;omega) (w3.heap.size+1) (by simp) ?_
 intro gs cas w5 hown5 hgrow5 hat5 hlt5
 have hq5:w5.heap[bp]?=some (C.blk vo vs vt vg):=grow_blk hgrow5 hHeld.1 nsb
 have ho5:=(ho3.alloc _).kept hgrow5 (own_ne ho3 hs3 (by decide))
 have ht5:=(ht3.alloc _).kept hgrow5 (own_ne ht3 hs3 (by decide))
 have hg5:=(hg3.alloc _).kept hgrow5 (own_ne hg3 hs3 (by decide))
 refine hK.out _ _ ?_
 clear hK K
 refine norm_ (a':=?_) ?_ ?_
 rotate_left
 ·show Act.put _ (some 20) _=_
  simp only [Act.put,List.setIfInBounds_toArray,List.set_cons_zero,List.set_cons_succ,i64_w,i32_w]
  rfl
 refine pure_ (i:=16) (N:=some 21) (v:=?_) (a':=?_) #[true,true,true,true,true,true,true,true,true,true,true,true,true,true,true,true,true,false,false,false,false,false] rfl rfl (by kernel_rfl) (fun _ _ _ h=>h) (Or.inl ⟨by rfl,?_⟩) ?_ ?_
 rotate_left
 ·intro w'
  go_simp
  with_reducible rfl
 rotate_left
 ·simp only [Act.put,List.setIfInBounds_toArray,List.set_cons_zero,List.set_cons_succ,i64_w,i32_w]
  rfl
 refine pure_ (i:=17) (N:=some 22) (v:=?_) (a':=?_) #[true,true,true,true,true,true,true,true,true,true,true,true,true,true,true,true,true,true,false,false,false,false] rfl rfl (by kernel_rfl) (fun _ _ _ h=>h) (Or.inl ⟨by rfl,?_⟩) ?_ ?_
 rotate_left
 ·intro w'
  go_simp
  with_reducible rfl
 rotate_left
 ·simp only [Act.put,List.setIfInBounds_toArray,List.set_cons_zero,List.set_cons_succ,i64_w,i32_w]
  rfl
 refine last_ (i:=18) (N:=none) #[true,true,true,true,true,true,true,true,true,true,true,true,true,true,true,true,true,true,true,false,false,false] rfl rfl (by kernel_rfl) (by decide) (fun K hK=>?_)
 have c5:w5.cell? ⟨bp,6,none⟩=some vo:=by rw [cell_blk hq5];rfl
 have f5:=frozen_blk hq5 6
 go_simp
 refine hK.out _ _ ?_
 clear hK K c5 f5
 have hq6:=set_blk hq5 6 (.slice (some ⟨gg,0,none⟩) (b.out.length+1) cap)
 refine pure_ (i:=19) (N:=some 23) (v:=?_) (a':=?_) #[true,true,true,true,true,true,true,true,true,true,true,true,true,true,true,true,true,true,true,true,false,false] rfl rfl (by kernel_rfl) (fun _ _ _ h=>h) (Or.inl ⟨by rfl,?_⟩) ?_ ?_
 rotate_left
 ·intro w'
  go_simp
  with_reducible rfl
 rotate_left
 ·simp only [Act.put,List.setIfInBounds_toArray,List.set_cons_zero,List.set_cons_succ,i64_w,i32_w]
  rfl
 refine pure_ (i:=20) (N:=some 24) (v:=?_) (a':=?_) #[true,true,true,true,true,true,true,true,true,true,true,true,true,true,true,true,true,true,true,true,true,false] rfl rfl (by kernel_rfl) (fun _ _ _ h=>h) (Or.inl ⟨by rfl,?_⟩) ?_ ?_
 rotate_left
 ·intro w'
  go_simp
  with_reducible rfl
 rotate_left
 ·simp only [Act.put,List.setIfInBounds_toArray,List.set_cons_zero,List.set_cons_succ,i64_w,i32_w]
  rfl
 refine last_ (i:=21) (N:=none) #[true,true,true,true,true,true,true,true,true,true,true,true,true,true,true,true,true,true,true,true,true,true] rfl rfl (by kernel_rfl) (by decide) (fun K hK=>?_)
 obtain⟨w6,hw6⟩:∃ w6,w6=w5.setCell ⟨bp,6,none⟩ (.slice (some ⟨gg,0,none⟩) (b.out.length+1) cap):=⟨_,rfl⟩
 rw [<-hw6] at hq6 ⊢
 have c6:w6.cell? ⟨bp,7,none⟩=some vs:=by rw [cell_blk hq6];rfl
 have f6:=frozen_blk hq6 7
 replace hw6:=Lib.hid hw6
 go_simp
 refine hK.out _ _ ?_
 clear hK K c6 f6
 refine done_ (by kernel_rfl) ?_
 have hq7:=set_blk hq6 7 (.slice (some ⟨gs,0,none⟩) (b.spans.length+1) cas)
 obtain⟨w7,hw7⟩:∃ w7,w7=w6.setCell ⟨bp,7,none⟩ (.slice (some ⟨gs,0,none⟩) (b.spans.length+1) cas):=⟨_,rfl⟩
 rw [<-hw7] at hq7 ⊢
 have c7:w7.cell? ⟨bp,6,none⟩=some (.slice (some ⟨gg,0,none⟩) (b.out.length+1) cap):=by rw [cell_blk hq7];rfl
 have f7:=frozen_blk hq7 6
 replace hw7:=Lib.hid hw7
 go_simp
 go_wp2_with fail
 replace hW:W=_:=HW
 replace hWs:W.heap.size=w.heap.size+1:=HWs
 replace hl:b.spans.length=b.out.length:=HL
 replace hw6:w6=_:=hw6
 replace hw7:w7=_:=hw7
 have s1:=hgrow.size
 simp at s1
 have s3:=hb.size
 have s5:=hgrow5.size
 simp at s5
 have s7:w7.heap.size=w5.heap.size:=by rw [hw7,set_size,hw6,set_size]
 have k7:∀ k,k≠bp->w7.heap[k]?=w5.heap[k]?:=fun k hk=>by rw [hw7,set_blk_ne _ _ hk,hw6,set_blk_ne _ _ hk]
 have g1:=(hown1.lt gg rfl).1
 have g5:=hown5.lt gs rfl
 refine bodyPost_ret (v:= .int .i64 b.out.length) (by simp [results,Tryz.results77,go_sem]) rfl ⟨rfl,fun k=>foot k\/(w.heap.size<=k/\k<w7.heap.size),⟨.slice (some ⟨gg,0,none⟩) (b.out.length+1) cap,.slice (some ⟨gs,0,none⟩) (b.spans.length+1) cas,vt,vg,hq7,?_,?_,?_,?_,hne,hbb,?_,.inl hfb,?_,?_,hvt,hvg⟩,⟨?_,?_,?_,?_,?_,?_⟩⟩
 ·have:=own_of (w':=w7) ho5 fun k hk=>k7 k fun h=>own_ne_blk ho5 hq5 (by decide) (h ▸ hk)
  simpa [Mk.put,instsV_snoc] using this
 ·have:=own_of (w':=w7) hown5 fun k hk=>k7 k fun h=>own_ne_blk hown5 hq5 (by decide) (h ▸ hk)
  simpa [Mk.put,spansV_snoc] using this
 ·exact own_of (w':=w7) ht5 fun k hk=>k7 k fun h=>own_ne_blk ht5 hq5 (by decide) (h ▸ hk)
 ·exact own_of (w':=w7) hg5 fun k hk=>k7 k fun h=>own_ne_blk hg5 hq5 (by decide) (h ▸ hk)
 ·simp [Mk.put,hl]
 ·rintro k (h|h|h|h)
  ·have h:gg=k:=by simpa [inRow,Value.ownBlock] using h
   subst h
   rcases hat with h|h
   ·exact .inl (hfr _ (.inl h))
   ·exact .inr (by omega)
  ·have h:gs=k:=by simpa [inRow,Value.ownBlock] using h
   subst h
   rcases hat5 with h|h
   ·exact .inl (hfr _ (.inr (.inl h)))
   ·exact .inr (by omega)
  ·exact .inl (hfr _ (.inr (.inr (.inl h))))
  ·exact .inl (hfr _ (.inr (.inr (.inr h))))
 ·rintro k (h|h)
  ·have:=hf k h
   omega
  ·have:=hf bp hfb
   omega
 ·rw [hw7,hw6]
  exact (hgrow5.os.trans hb.os).trans (hgrow.os.trans (by rw [hW];rfl))
 ·rw [hw7,hw6]
  exact (hgrow5.tape.trans hb.tape).trans (hgrow.tape.trans (by rw [hW];rfl))
 ·rw [hw7,hw6]
  exact (hgrow5.output.trans hb.output).trans (hgrow.output.trans (by rw [hW];rfl))
 ·omega
 ·intro k hk hn
  have e1:k≠bp:=fun h=>hn (h ▸ hfb)
  rw [k7 k e1,hgrow5.block k (by simp;omega) (fun h=>hn (hfr k (.inr (.inl h.symm)))),heap_alloc_old _ _ (by omega),hb.block k (by omega),hgrow.block k (by simp;omega) (fun h=>hn (hfr k (.inl h.symm)))]
  show (W.alloc _).heap[k]?=_
  rw [heap_alloc_old _ _ (by omega),hW,heap_alloc_old _ _ hk]
 ·rintro k (h|h)
  ·exact .inl h
  ·exact .inr h.1
def Mk.app (b:Mk)(l:List Al.CI):Mk:={ b with out:=b.out++l.map Prod.fst,spans:=b.spans++l.map Prod.snd}
theorem Mk.app_app (b:Mk)(l m:List Al.CI):(b.app l).app m=b.app (l++m):=by simp [Mk.app]
theorem Mk.app_nil (b:Mk):b.app []=b:=by simp [Mk.app]
theorem Mk.app_len (b:Mk)(l:List Al.CI):(b.app l).out.length=b.out.length+l.length:=by simp [Mk.app]
def Makes (f:FuncId)(args:List Value)(C:MkC)(b b':Mk)(v:Value):Prop:=
 ∀ (w:World) (base bp:Nat) (foot:Nat->Prop),Maker w base foot bp C b->Calls Tryz.prog f (Value.pointer (some ⟨bp,0,none⟩) :: args).toArray w fun e w'=>e= .returned v/\∃ foot',Maker w' base foot' bp C b'/\Chg w w' foot foot'
theorem put_makes (C:MkC)(b:Mk)(i:Al.Inst)(h:b.out.length<1000000):Makes 77 [.agg #[.int .i64 i.op,.int .i64 i.d,.int .i64 i.a,.int .i64 i.b,.int .i64 i.c,.int .i64 i.k]] C b (b.app [(i,Al.allSpan)]) (.int .i64 b.out.length):=
 fun _ _ _ _ hM=>put_any hM i h
theorem constant_makes (C:MkC)(b:Mk)(d k:Int)(h:b.out.length<1000000):Makes 72 [.int .i64 d,.int .i64 k] C b (b.app [Al.ci 1 d 0 0 0 k]) (.tuple #[]):=by
 intro w base bp foot hM
 go_enter Tryz.func72,Tryz.ntmps72
 go_wp2_with (first|(go_at_call 77;refine (put_any hM ⟨1,d,0,0,0,k⟩ h).mono ?_;rintro e w2 ⟨rfl,hp⟩))
 exact bodyPost_end (v:= .tuple #[]) (by simp [results,Tryz.results72,go_sem]) rfl ⟨rfl,hp⟩
theorem two_makes (C:MkC)(b:Mk)(o d x y:Int)(h:b.out.length<1000000):Makes 164 [.int .i64 o,.int .i64 d,.int .i64 x,.int .i64 y] C b (b.app [Al.ci o d x y 0 0]) (.tuple #[]):=by
 intro w base bp foot hM
 go_enter Tryz.func164,Tryz.ntmps164
 go_wp2_with (first|(go_at_call 77;refine (put_any hM ⟨o,d,x,y,0,0⟩ h).mono ?_;rintro e w2 ⟨rfl,hp⟩))
 exact bodyPost_end (v:= .tuple #[]) (by simp [results,Tryz.results164,go_sem]) rfl ⟨rfl,hp⟩
theorem sel_makes (C:MkC)(b:Mk)(d x y z:Int)(h:b.out.length<1000000):Makes 168 [.int .i64 d,.int .i64 x,.int .i64 y,.int .i64 z] C b (b.app [Al.ci 14 d x y z 0]) (.tuple #[]):=by
 intro w base bp foot hM
 go_enter Tryz.func168,Tryz.ntmps168
 go_wp2_with (first|(go_at_call 77;refine (put_any hM ⟨14,d,x,y,z,0⟩ h).mono ?_;rintro e w2 ⟨rfl,hp⟩))
 exact bodyPost_end (v:= .tuple #[]) (by simp [results,Tryz.results168,go_sem]) rfl ⟨rfl,hp⟩
theorem halt_makes (C:MkC)(b:Mk)(k:Int)(h:b.out.length<1000000):Makes 39 [.int .i64 k] C b (b.app [Al.ci 20 0 0 0 0 k]) (.tuple #[]):=by
 intro w base bp foot hM
 go_enter Tryz.func39,Tryz.ntmps39
 go_wp2_with (first|(go_at_call 77;refine (put_any hM ⟨20,0,0,0,0,k⟩ h).mono ?_;rintro e w2 ⟨rfl,hp⟩))
 exact bodyPost_end (v:= .tuple #[]) (by simp [results,Tryz.results39,go_sem]) rfl ⟨rfl,hp⟩
structure MkCells (w:World)(bp:Nat)(C:MkC)(b:Mk):Prop where
 c0:w.cell? ⟨bp,0,none⟩=some (.int .i64 C.q)
 c1:w.cell? ⟨bp,1,none⟩=some (.int .i64 C.n)
 c2:w.cell? ⟨bp,2,none⟩=some (.slice C.va C.nv C.vcap)
 c3:w.cell? ⟨bp,3,none⟩=some C.sb
 c4:w.cell? ⟨bp,4,none⟩=some (.int .i64 C.q)
 c5:w.cell? ⟨bp,5,none⟩=some (.int .i64 C.n)
 c8:w.cell? ⟨bp,8,none⟩=some (.int .i64 C.scratch)
 lt:bp<w.heap.size
theorem Maker.cells {w:World}{base bp:Nat}{foot:Nat->Prop}{C:MkC}{b:Mk}(h:Maker w base foot bp C b):MkCells w bp C b:=by
 obtain⟨vo,vs,vt,vg,hblk,_⟩:=h
 refine⟨?_,?_,?_,?_,?_,?_,?_,blk_lt hblk⟩<;> (rw [cell_blk hblk];rfl)
theorem here_makes (C:MkC)(b:Mk):Makes 111 [] C b b (.int .i64 b.out.length):=by
 intro w base bp foot hM
 obtain⟨vo,vs,vt,vg,hblk,ho,hr⟩:=id hM
 have h6:w.cell? ⟨bp,6,none⟩=some vo:=by rw [cell_blk hblk];rfl
 obtain⟨a,cap,rfl⟩:∃ a cap,vo= .slice a b.out.length cap:=by
  rcases ho.2 with⟨h,h0⟩|⟨g,cap,cur,h,_⟩
  ·exact⟨none,0,by rw [h,h0]⟩
  ·exact⟨_,cap,h⟩
 go_enter Tryz.func111,Tryz.ntmps111
 go_wp2_with fail
 exact bodyPost_ret (v:= .int .i64 b.out.length) (by simp [results,Tryz.results111,go_sem]) rfl ⟨rfl,foot,hM,Chg.refl _ _⟩
theorem Maker.last {w:World}{base bp:Nat}{foot:Nat->Prop}{C:MkC}{b:Mk}{i:Al.Inst}(hM:Maker w base foot bp C (b.put i)):
  ∃ gs cas,w.cell? ⟨bp,7,none⟩=some (.slice (some ⟨gs,0,none⟩) (b.out.length+1) cas)/\w.cell? ⟨gs,b.out.length * 2,none⟩=some (.int .i64 (-9223372036854775808))/\w.cell? ⟨gs,b.out.length * 2+1,none⟩=some (.int .i64 9223372036854775807)/\
   (∀ j,w.frozen? ⟨gs,j,none⟩=false)/\
   ∀ low high,Maker ((w.setCell ⟨gs,b.out.length * 2,none⟩ (.int .i64 low)).setCell ⟨gs,b.out.length * 2+1,none⟩ (.int .i64 high)) base foot bp C (b.app [(i,⟨low,high⟩)])/\
    Chg w ((w.setCell ⟨gs,b.out.length * 2,none⟩ (.int .i64 low)).setCell ⟨gs,b.out.length * 2+1,none⟩ (.int .i64 high)) foot foot:=by
 obtain⟨vo,vs,vt,vg,hblk,ho,hs,ht,hg,hne,hbb,hl,hfb,hfr,hf,hvt,hvg⟩:=hM
 have hl2:b.spans.length=b.out.length:=by simpa [Mk.put] using hl
 have hs':=hs
 simp only [Mk.put,spansV_snoc,List.length_append,List.length_singleton,hl2] at hs'
 obtain⟨gs,cas,rfl,hgb,hgl⟩:=hs'.form (by omega)
 have hlen:(spansV b.spans).length=b.out.length * 2:=by
  have:∀ l:List Al.Span,(spansV l).length=l.length * 2:=fun l=>by
   induction l with
   |nil=>rfl
   |cons s l ih=>simp only [spansV,List.flatMap_cons,List.length_append,List.length_cons] at ih ⊢;rw [ih];simp [spanCells];omega
  rw [this,hl2]
 have nb:gs≠bp:=fun h=>own_ne_blk hs' hblk (by decide) (by rw [h];rfl)
 refine⟨gs,cas,by rw [cell_blk hblk];rfl,?_,?_,fun j=>hs'.frozenAt j,fun low high=>?_⟩
 ·rw [hs'.cellAt _ (by omega),List.getElem?_append_right (by omega),hlen];simp [spanCells,Al.allSpan]
 ·rw [hs'.cellAt _ (by omega),List.getElem?_append_right (by omega),hlen];simp [spanCells,Al.allSpan]
 obtain⟨s1,g1⟩:=hs'.stored (b.out.length * 2) (.int .i64 low)
 obtain⟨s2,g2⟩:=s1.stored (b.out.length * 2+1) (.int .i64 high)
 have hk:∀ k,k≠gs->((w.setCell ⟨gs,b.out.length * 2,none⟩ (.int .i64 low)).setCell ⟨gs,b.out.length * 2+1,none⟩ (.int .i64 high)).heap[k]?=w.heap[k]?:=fun k hk=>by
  rw [set_blk_ne _ _ hk,set_blk_ne _ _ hk]
 have own:∀ {e size v n xs},w.ownsRow base e size v n xs->e≠108->((w.setCell ⟨gs,b.out.length * 2,none⟩ (.int .i64 low)).setCell ⟨gs,b.out.length * 2+1,none⟩ (.int .i64 high)).ownsRow base e size v n xs:=fun h he=>
  own_of h fun k hv=>hk k fun e=>by
   subst e
   obtain⟨c,hc⟩:=own_type hs' rfl
   obtain⟨c',hc'⟩:=own_type h hv
   rw [hc] at hc'
   cases hc'
   exact he rfl
 refine⟨⟨vo,_,vt,vg,(hk bp nb.symm).trans hblk,own ho (by decide),?_,own ht (by decide),own hg (by decide),hne,hbb,by simpa [Mk.app] using hl2,hfb,hfr,fun k h=>by simpa [set_size] using hf k h,hvt,hvg⟩,⟨rfl,rfl,rfl,by simp [set_size],fun k _ hn=>hk k fun e=>hn (hfr k (.inr (.inl (by rw [e];rfl)))),fun _ h=> .inl h⟩⟩
 have e:((spansV b.spans++spanCells Al.allSpan).set (b.out.length * 2) (.int .i64 low)).set (b.out.length * 2+1) (.int .i64 high)=spansV (b.app [(i,⟨low,high⟩)]).spans:=by
  rw [List.set_append_right _ _ (by omega),List.set_append_right _ _ (by omega),hlen]
  simp [Mk.app,spanCells,spansV,Al.allSpan]
 rw [e] at s2
 simpa [Mk.app,hl2] using s2
theorem within_makes (C:MkC)(b:Mk)(low high:Int)(i:Al.Inst)(h:b.out.length<1000000):Makes 112 [.int .i64 low,.int .i64 high,.agg #[.int .i64 i.op,.int .i64 i.d,.int .i64 i.a,.int .i64 i.b,.int .i64 i.c,.int .i64 i.k]] C b (b.app [(i,⟨low,high⟩)]) (.tuple #[]):=by
 intro w base bp foot hM
 obtain⟨W,hW⟩:∃ W,W=w.alloc (.cells #[.int .i64 i.op,.int .i64 i.d,.int .i64 i.a,.int .i64 i.b,.int .i64 i.c,.int .i64 i.k] 97):=⟨_,rfl⟩
 have hM1:Maker W base foot bp C b:=by
  obtain⟨vo,vs,vt,vg,hblk,ho,hs,ht,hg,hne,hbb,hl,hfb,hfr,hf,hvt,hvg⟩:=hM
  rw [hW]
  exact⟨vo,vs,vt,vg,alloc_blk _ hblk,ho.alloc _,hs.alloc _,ht.alloc _,hg.alloc _,hne,hbb,hl,hfb,hfr,fun k hk=>⟨(hf k hk).1,by have:=(hf k hk).2;simp;omega⟩,hvt,hvg⟩
 have hC1:Chg w W foot foot:=by rw [hW];exact⟨rfl,rfl,rfl,by simp,fun k hk _=>heap_alloc_old _ _ hk,fun _ h=> .inl h⟩
 have b0:W.heap[w.heap.size]?=some (.cells #[.int .i64 i.op,.int .i64 i.d,.int .i64 i.a,.int .i64 i.b,.int .i64 i.c,.int .i64 i.k] 97 (0,0)):=by rw [hW];exact heap_alloc_new w _
 have d0:W.cell? ⟨w.heap.size,0,none⟩=some (.int .i64 i.op):=by rw [cell_blk b0];rfl
 have d1:W.cell? ⟨w.heap.size,1,none⟩=some (.int .i64 i.d):=by rw [cell_blk b0];rfl
 have d2:W.cell? ⟨w.heap.size,2,none⟩=some (.int .i64 i.a):=by rw [cell_blk b0];rfl
 have d3:W.cell? ⟨w.heap.size,3,none⟩=some (.int .i64 i.b):=by rw [cell_blk b0];rfl
 have d4:W.cell? ⟨w.heap.size,4,none⟩=some (.int .i64 i.c):=by rw [cell_blk b0];rfl
 have d5:W.cell? ⟨w.heap.size,5,none⟩=some (.int .i64 i.k):=by rw [cell_blk b0];rfl
 have q0:(0:Int)<=(b.out.length:Int):=by omega
 have q1:(b.out.length:Int)<(b.out.length:Int)+1:=by omega
 go_enter Tryz.func112,Tryz.ntmps112
 go_wp2_with fail
 rw [<-hW]
 have HW:=Lib.hid hW
 clear hW b0
 go_wp2_with (first|(go_at_call 77;refine (put_any hM1 i h).mono ?_;rintro e w2 ⟨rfl,foot2,hM2,hC2⟩;obtain⟨gs,cas,e7,e8,e9,ef,hlast⟩:=hM2.last;obtain⟨hM3,hC3⟩:=hlast low high;have HM3:=Lib.hid hM3;have HC3:=Lib.hid hC3;clear hlast hM3 hC3))
 exact bodyPost_end (v:= .tuple #[]) (by simp [results,Tryz.results112,go_sem]) rfl ⟨rfl,foot2,HM3,(hC1.trans hC2).trans HC3⟩
theorem is_yes (w:World)(q:Int)(h:Al.isPrime q=true):Calls Tryz.prog 93 #[.int .i64 q] w fun e w'=>e= .returned (.bool true)/\w'=w:=by
 simp only [Al.isPrime,Bool.or_eq_true,beq_iff_eq] at h
 rcases h with (((((h|h)|h)|h)|h)|h)|h<;>
 ·subst h
  go_enter Tryz.func93,Tryz.ntmps93
  go_wp2_with fail
  exact bodyPost_ret (v:= .bool true) (by simp [results,Tryz.results93,go_sem]) rfl ⟨rfl,rfl⟩
theorem is_no (w:World)(q:Int)(h:Al.isPrime q=false):Calls Tryz.prog 93 #[.int .i64 q] w fun e w'=>e= .returned (.bool false)/\w'=w:=by
 simp only [Al.isPrime,Bool.or_eq_false_iff] at h
 obtain⟨⟨⟨⟨⟨⟨h1,h2⟩,h3⟩,h4⟩,h5⟩,h6⟩,h7⟩:=h
 go_enter Tryz.func93,Tryz.ntmps93
 go_wp2_with fail
 exact bodyPost_ret (v:= .bool false) (by simp [results,Tryz.results93,go_sem]) rfl ⟨rfl,rfl⟩
theorem valid_yes (w:World)(q n:Int)(h:Al.ringOk q n=true):Calls Tryz.prog 61 #[.agg #[.int .i64 q,.int .i64 n]] w fun e w'=>e= .returned .nilIface/\Below w.heap.size w w':=by
 simp only [Al.ringOk,Bool.and_eq_true] at h
 obtain⟨hq,h⟩:=h
 simp only [Al.isSize,Bool.or_eq_true,beq_iff_eq] at h
 have e0:(w.alloc (.cells #[.int .i64 q,.int .i64 n] 23)).cell? ⟨w.heap.size,0,none⟩=some (.int .i64 q):=by rw [cell_blk (heap_alloc_new w _)];rfl
 have e1:(w.alloc (.cells #[.int .i64 q,.int .i64 n] 23)).cell? ⟨w.heap.size,1,none⟩=some (.int .i64 n):=by rw [cell_blk (heap_alloc_new w _)];rfl
 have eb:Below w.heap.size w (w.alloc (.cells #[.int .i64 q,.int .i64 n] 23)):=(Below.refl _ _).alloc (Nat.le_refl _) _
 rcases h with (((((h|h)|h)|h)|h)|h)|h<;>
 ·subst h
  go_enter Tryz.func61,Tryz.ntmps61
  go_wp2_with (first|(go_at_call 93;refine (is_yes _ q hq).mono ?_;rintro e w2 ⟨rfl,rfl⟩))
  exact bodyPost_ret (v:= .nilIface) (by simp [results,Tryz.results61,go_sem]) rfl ⟨rfl,eb⟩
theorem prog_cells {w:World}{k:Nat}{c0 c1 c2 c3:Value}{t:TypeId}(h:w.heap[k]?=some (.cells #[c0,c1,c2,c3] t (0,0))):w.cell? ⟨k,1,none⟩=some c1/\w.cell? ⟨k,2,none⟩=some c2:=by
 constructor<;> (rw [cell_blk h];rfl)
theorem place_yes (w:World)(q n v:Int)(a:Option Addr)(nv cap:Nat)(sb:Value)(h:Al.ringOk q n=true)(h0:0<=v)(h1:v<nv)(hv:nv<=12):Calls Tryz.prog 28 #[.agg #[.int .i64 q,.int .i64 n,.slice a nv cap,sb],.int .i64 v] w fun e w'=>e= .returned (.int .i64 (2+n * v))/\Below w.heap.size w w':=by
 have hn:4<=n/\n<=256:=by
  simp only [Al.ringOk,Al.isSize,Bool.and_eq_true,Bool.or_eq_true,beq_iff_eq] at h
  omega
 have hp0:0<=n * v:=Int.mul_nonneg (by omega) h0
 have hp1:n * v<=256 * 12:=Int.le_trans (Int.mul_le_mul_of_nonneg_right hn.2 h0) (by omega)
 have ew:IntKind.i64.wrap (n * v)=n * v:=IntWalk.i64_in _ (by omega)
 have b0:=heap_alloc_new w (.cells #[.int .i64 q,.int .i64 n,.slice a nv cap,sb] 27)
 have e0:(w.alloc (.cells #[.int .i64 q,.int .i64 n,.slice a nv cap,sb] 27)).cell? ⟨w.heap.size,0,none⟩=some (.int .i64 q):=by rw [cell_blk b0];rfl
 have e1:(w.alloc (.cells #[.int .i64 q,.int .i64 n,.slice a nv cap,sb] 27)).cell? ⟨w.heap.size,1,none⟩=some (.int .i64 n):=by rw [cell_blk b0];rfl
 have eb:Below w.heap.size w (w.alloc (.cells #[.int .i64 q,.int .i64 n,.slice a nv cap,sb] 27)):=(Below.refl _ _).alloc (Nat.le_refl _) _
 have t1:decide (v<0)=false:=by simp;omega
 have t2:decide ((nv:Int)<=v)=false:=by simp;omega
 go_enter Tryz.func28,Tryz.ntmps28
 go_wp2_with (first|(go_at_call 61;refine (valid_yes _ q n h).mono ?_;rintro e w2 ⟨rfl,hb⟩;obtain⟨g1,g2⟩:=prog_cells (below_blk hb b0 (by simp))))
 exact bodyPost_ret (v:= .int .i64 (2+n * v)) (by simp [results,Tryz.results28,go_sem,ew];try rw [IntWalk.i64_in _ (by omega)]) rfl ⟨rfl,eb.trans (hb.mono (by simp))⟩
end Go.Proofs.YtkplfaionpplaaaGreatDoor
