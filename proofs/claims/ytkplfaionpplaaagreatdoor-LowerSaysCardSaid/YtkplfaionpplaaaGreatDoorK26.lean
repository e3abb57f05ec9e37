/- Part 26: B50. -/
import Derived.Test.YtkplfaionpplaaaGreatDoorK25
import Derived.BigFrame
set_option linter.unusedVariables false
set_option linter.unusedSimpArgs false
namespace Go.Proofs.YtkplfaionpplaaaGreatDoor
open Go.RowKit
theorem step_val {P:Program}{ops:Array Oper}{Q:Exit->Act->World->Prop}{o:Oper}{rest:List Oper}{a:Act}{w:World}(v:Value)(hw:Region.wanted o (yielded ops a.tmps)=true)(hrun:(execOp a.eval o).run P w= .ok (.value v) w)
  (h:wpList P ops Q rest (a.put o.dst v) w):wpList P ops Q (o :: rest) a w:=by
 refine BigFrame.wpList_want hw fun K hK=>?_
 unfold Oper.wp
 rw [hrun]
 exact hK _ _ h
theorem yl {ops:Array Oper}{t:Array Value}{j d:Nat}{b:Bool}(hj:(ops[j]?).bind (·.dst)=some d)(hd:t[d]?=some (.bool b)):yielded ops t j=some b:=by
 unfold yielded;rw [hj];simp [hd]
theorem yn {ops:Array Oper}{t:Array Value}{j d:Nat}(hj:(ops[j]?).bind (·.dst)=some d)(hd:t[d]?=some undef):yielded ops t j=none:=by
 unfold yielded;rw [hj];simp [hd,undef]
theorem put_get {a:Act}{d k:Nat}{v:Value}:(a.put (some d) v).tmps[k]?=if d=k then (if k<a.tmps.size then some v else none) else a.tmps[k]?:=by
 simp only [Act.put,Array.getElem?_setIfInBounds]
 split
 ·subst_vars;rfl
 ·rfl
theorem put_size {a:Act}{d:Nat}{v:Value}:(a.put (some d) v).tmps.size=a.tmps.size:=by simp [Act.put]
theorem eval_get {a:Act}{k:Nat}{v:Value}(h:a.tmps[k]?=some v):a.eval (.tmp k)=v:=by
 unfold Act.eval;simp [Array.getD_eq_getD_getElem?,h]
section
variable {ops:Array Oper} {Q:Exit->Act->World->Prop} {rest:List Oper} {a:Act} {w:World} {ty:TypeId} {ps:String} {af:Array Edge} {gd:Option (Nat×Bool)} {d:Nat}
theorem st_move {x:Nat}{v:Value}(hw:∀ o:Oper,o.guard=gd->Region.wanted o (yielded ops a.tmps)=true)(hx:a.tmps[x]?=some v)
  (h:wpList Tryz.prog ops Q rest (a.put (some d) v) w):wpList Tryz.prog ops Q ({ dst:=some d,op:= .move (.tmp x),type:=ty,pos:=ps,after:=af,guard:=gd} :: rest) a w:=
 step_val v (hw _ rfl) (by unfold execOp;simp only [eval_get hx];rfl) h
theorem st_fieldAddr {x k f T:Nat}(hT:T=176/\f<7\/T=66/\f<8)(hw:∀ o:Oper,o.guard=gd->Region.wanted o (yielded ops a.tmps)=true)(hx:a.tmps[x]?=some (.pointer (some ⟨k,0,none⟩)))
  (h:wpList Tryz.prog ops Q rest (a.put (some d) (.pointer (some ⟨k,f,none⟩))) w):wpList Tryz.prog ops Q ({ dst:=some d,op:= .fieldAddr T (.tmp x) f,type:=ty,pos:=ps,after:=af,guard:=gd} :: rest) a w:=by
 refine step_val _ (hw _ rfl) ?_ h
 unfold execOp;simp only [eval_get hx]
 rcases hT with⟨rfl,hf⟩|⟨rfl,hf⟩
 ·have h7:f=0\/f=1\/f=2\/f=3\/f=4\/f=5\/f=6:=by omega
  rcases h7 with rfl|rfl|rfl|rfl|rfl|rfl|rfl<;> simp [go_sem]
 ·have h7:f=0\/f=1\/f=2\/f=3\/f=4\/f=5\/f=6\/f=7:=by omega
  rcases h7 with rfl|rfl|rfl|rfl|rfl|rfl|rfl|rfl<;> simp [go_sem]
theorem st_load {x T:Nat}(hT:T=2\/T=3\/T=4\/T=25){ad:Addr}{v:Value}(hw:∀ o:Oper,o.guard=gd->Region.wanted o (yielded ops a.tmps)=true)(hx:a.tmps[x]?=some (.pointer (some ad)))(hc:w.cell? ad=some v)(hn:∀ vs,v≠ .agg vs)
  (h:wpList Tryz.prog ops Q rest (a.put (some d) v) w):wpList Tryz.prog ops Q ({ dst:=some d,op:= .load T (.tmp x),type:=ty,pos:=ps,after:=af,guard:=gd} :: rest) a w:=by
 refine step_val _ (hw _ rfl) ?_ h
 unfold execOp;simp only [eval_get hx]
 rcases hT with rfl|rfl|rfl|rfl<;> simp [go_sem,hc]
theorem st_not {x:Nat}{b:Bool}(hw:∀ o:Oper,o.guard=gd->Region.wanted o (yielded ops a.tmps)=true)(hx:a.tmps[x]?=some (.bool b))
  (h:wpList Tryz.prog ops Q rest (a.put (some d) (.bool !b)) w):wpList Tryz.prog ops Q ({ dst:=some d,op:= .unOp .not 4 (.tmp x),type:=ty,pos:=ps,after:=af,guard:=gd} :: rest) a w:=by
 refine step_val _ (hw _ rfl) ?_ h
 unfold execOp;simp only [eval_get hx]
 simp [go_sem]
theorem st_pick {x:Nat}{y z:Operand}{b:Bool}{v:Value}(hw:∀ o:Oper,o.guard=gd->Region.wanted o (yielded ops a.tmps)=true)(hx:a.tmps[x]?=some (.bool b))(hv:(if b then a.eval y else a.eval z)=v)
  (h:wpList Tryz.prog ops Q rest (a.put (some d) v) w):wpList Tryz.prog ops Q ({ dst:=some d,op:= .pick (.tmp x) y z,type:=ty,pos:=ps,after:=af,guard:=gd} :: rest) a w:=by
 refine step_val _ (hw _ rfl) ?_ h
 subst hv
 unfold execOp;simp only [eval_get hx]
 cases b<;> simp [go_sem]
theorem st_len {x T:Nat}(hT:T=25){A:Option Addr}{n c:Nat}(hw:∀ o:Oper,o.guard=gd->Region.wanted o (yielded ops a.tmps)=true)(hx:a.tmps[x]?=some (.slice A n c))
  (h:wpList Tryz.prog ops Q rest (a.put (some d) (.int .i64 n)) w):wpList Tryz.prog ops Q ({ dst:=some d,op:= .call { callee:= .builtin .len,args:= #[.tmp x],argTypes:= #[T]},type:=ty,pos:=ps,after:=af,guard:=gd} :: rest) a w:=by
 refine step_val _ (hw _ rfl) ?_ h
 have e:=eval_get hx
 simp only [BigFrame.execOp_builtin,BigFrame.builtin_len,List.map_toArray,List.map_cons,List.map_nil,e]
 subst hT
 simp [go_sem]
theorem st_neq {x T:Nat}{n:Int}(hT:T=3\/T=2)(hw:∀ o:Oper,o.guard=gd->Region.wanted o (yielded ops a.tmps)=true)(hx:a.tmps[x]?=some (.int .i64 n))
  (h:wpList Tryz.prog ops Q rest (a.put (some d) (.bool (n !=0))) w):wpList Tryz.prog ops Q ({ dst:=some d,op:= .binOp .neq T (.tmp x) (.const (.int .i64 0)) T,type:=ty,pos:=ps,after:=af,guard:=gd} :: rest) a w:=by
 refine step_val _ (hw _ rfl) ?_ h
 unfold execOp;simp only [eval_get hx,BigFrame.eval_const]
 rcases hT with rfl|rfl<;> simp [go_sem]
theorem st_gtr {x:Nat}{n:Int}(hw:∀ o:Oper,o.guard=gd->Region.wanted o (yielded ops a.tmps)=true)(hx:a.tmps[x]?=some (.int .i64 n))
  (h:wpList Tryz.prog ops Q rest (a.put (some d) (.bool (decide (0<n)))) w):wpList Tryz.prog ops Q ({ dst:=some d,op:= .binOp .gtr 3 (.tmp x) (.const (.int .i64 0)) 3,type:=ty,pos:=ps,after:=af,guard:=gd} :: rest) a w:=by
 refine step_val _ (hw _ rfl) ?_ h
 unfold execOp;simp only [eval_get hx,BigFrame.eval_const]
 simp [go_sem]
theorem st_skip {op:Op}(hw:∀ o:Oper,o.guard=gd->Region.wanted o (yielded ops a.tmps)=false)
 (h:wpList Tryz.prog ops Q rest (a.put (some d) undef) w):wpList Tryz.prog ops Q ({ dst:=some d,op:=op,type:=ty,pos:=ps,after:=af,guard:=gd} :: rest) a w:=wpList_skip (hw _ rfl) h
theorem wt {t:Array Value}{j:Nat}{b:Bool}(h:yielded ops t j=some b):∀ o:Oper,o.guard=some (j,b)->Region.wanted o (yielded ops t)=true:=by
 intro o e;unfold Region.wanted;simp [e,h]
theorem wf {t:Array Value}{j:Nat}{b:Bool}(h:yielded ops t j≠some b):∀ o:Oper,o.guard=some (j,b)->Region.wanted o (yielded ops t)=false:=by
 intro o e;unfold Region.wanted;simp [e,h]
theorem wo {t:Array Value}:∀ o:Oper,o.guard=none->Region.wanted o (yielded ops t)=true:=by
 intro o e;unfold Region.wanted;simp [e]
theorem st_pickT {x:Nat}{y z:Operand}{v:Value}(hw:∀ o:Oper,o.guard=gd->Region.wanted o (yielded ops a.tmps)=true)(hx:a.tmps[x]?=some (.bool true))(hv:a.eval y=v)
 (h:wpList Tryz.prog ops Q rest (a.put (some d) v) w):wpList Tryz.prog ops Q ({ dst:=some d,op:= .pick (.tmp x) y z,type:=ty,pos:=ps,after:=af,guard:=gd} :: rest) a w:=st_pick hw hx hv h
theorem st_pickF {x:Nat}{y z:Operand}{v:Value}(hw:∀ o:Oper,o.guard=gd->Region.wanted o (yielded ops a.tmps)=true)(hx:a.tmps[x]?=some (.bool false))(hv:a.eval z=v)
 (h:wpList Tryz.prog ops Q rest (a.put (some d) v) w):wpList Tryz.prog ops Q ({ dst:=some d,op:= .pick (.tmp x) y z,type:=ty,pos:=ps,after:=af,guard:=gd} :: rest) a w:=st_pick hw hx (show (if false=true then a.eval y else a.eval z)=v by rw [if_neg (by decide)];exact hv) h
theorem put_defers {a:Act}{d:Nat}{v:Value}:(a.put (some d) v).defers=a.defers:=rfl
set_option maxHeartbeats 1600000
theorem clauseD {ty0 ty1 ty2 ty3 ty4 ty5 ty6 ty7:TypeId}{ps0 ps1 ps2 ps3 ps4 ps5 ps6 ps7:String}{af0 af1 af2 af3 af4 af5 af6 af7:Array Edge}{x:Int}{kf ks:Nat}{b:Bool}(hsz:57<=a.tmps.size)(h5:a.tmps[5]?=some (.pointer (some ⟨kf,0,none⟩)))(h3:a.tmps[3]?=some (.pointer (some ⟨ks,0,none⟩)))(hm3:(ops[3]?).bind (·.dst)=some 52)(cf:w.cell? ⟨kf,0,none⟩=some (.bool b))(cs:w.cell? ⟨ks,1,none⟩=some (.int .i64 x))
  (h:∀ a':Act,a'.tmps.size=a.tmps.size->a'.defers=a.defers->(∀ k,k<49\/57<=k->a'.tmps[k]?=a.tmps[k]?)->a'.tmps[56]?=some (.bool (!b && x !=0))->wpList Tryz.prog ops Q rest a' w):
  wpList Tryz.prog ops Q ({ dst:=some 49,op:= .fieldAddr 176 (.tmp 5) 0,type:=ty0,pos:=ps0,after:=af0,guard:=none} ::
   { dst:=some (50),op:= .load 4 (.tmp 49),type:=ty1,pos:=ps1,after:=af1,guard:=none} ::
   { dst:=some (51),op:= .unOp .not 4 (.tmp 50),type:=ty2,pos:=ps2,after:=af2,guard:=none} ::
   { dst:=some (52),op:= .move (.tmp 51),type:=ty3,pos:=ps3,after:=af3,guard:=none} ::
   { dst:=some (53),op:= .fieldAddr 66 (.tmp 3) 1,type:=ty4,pos:=ps4,after:=af4,guard:=some (3,true)} ::
   { dst:=some (54),op:= .load 3 (.tmp 53),type:=ty5,pos:=ps5,after:=af5,guard:=some (3,true)} ::
   { dst:=some (55),op:= .binOp .neq 3 (.tmp 54) (.const (.int .i64 0)) 3,type:=ty6,pos:=ps6,after:=af6,guard:=some (3,true)} ::
   { dst:=some (56),op:= .pick (.tmp 52) (.tmp 55) (.const (.bool false)),type:=ty7,pos:=ps7,after:=af7,guard:=none} :: rest) a w:=by
 have y4:∀ (a1:Act) (bb:Bool),a1.tmps[52]?=some (.bool bb)->yielded ops a1.tmps 3=some bb:=fun a1 bb e=>yl hm3 e
 refine st_fieldAddr (.inl ⟨rfl,by omega⟩) wo (by ((try simp only [put_get,put_size,Bool.not_true,Bool.not_false]);(repeat first|rw [if_pos trivial]|rw [if_neg (by omega)]|rw [if_pos (by omega)]);try first|with_reducible rfl|assumption)) ?_
 refine st_load (ad:=⟨kf,0,none⟩) (v:= .bool b) (.inr (.inr (.inl rfl))) wo (by ((try simp only [put_get,put_size,Bool.not_true,Bool.not_false]);(repeat first|rw [if_pos trivial]|rw [if_neg (by omega)]|rw [if_pos (by omega)]);try first|with_reducible rfl|assumption)) cf (by intro vs e;cases e) ?_
 refine st_not (b:=b) wo (by ((try simp only [put_get,put_size,Bool.not_true,Bool.not_false]);(repeat first|rw [if_pos trivial]|rw [if_neg (by omega)]|rw [if_pos (by omega)]);try first|with_reducible rfl|assumption)) ?_
 refine st_move (v:= .bool !b) wo (by ((try simp only [put_get,put_size,Bool.not_true,Bool.not_false]);(repeat first|rw [if_pos trivial]|rw [if_neg (by omega)]|rw [if_pos (by omega)]);try first|with_reducible rfl|assumption)) ?_
 cases b with
 |true=>
  refine st_skip (wf (by rw [y4 _ false (by ((try simp only [put_get,put_size,Bool.not_true,Bool.not_false]);(repeat first|rw [if_pos trivial]|rw [if_neg (by omega)]|rw [if_pos (by omega)]);try first|with_reducible rfl|assumption))];decide)) ?_
  refine st_skip (wf (by rw [y4 _ false (by ((try simp only [put_get,put_size,Bool.not_true,Bool.not_false]);(repeat first|rw [if_pos trivial]|rw [if_neg (by omega)]|rw [if_pos (by omega)]);try first|with_reducible rfl|assumption))];decide)) ?_
  refine st_skip (wf (by rw [y4 _ false (by ((try simp only [put_get,put_size,Bool.not_true,Bool.not_false]);(repeat first|rw [if_pos trivial]|rw [if_neg (by omega)]|rw [if_pos (by omega)]);try first|with_reducible rfl|assumption))];decide)) ?_
  refine st_pickF (v:= .bool false) wo (by ((try simp only [put_get,put_size,Bool.not_true,Bool.not_false]);(repeat first|rw [if_pos trivial]|rw [if_neg (by omega)]|rw [if_pos (by omega)]);try first|with_reducible rfl|assumption)) rfl ?_
  refine h _ (by simp only [put_size]) (by simp only [put_defers]) (fun k hk=>?_) ?_
  ·simp only [put_get,put_size];(repeat rw [if_neg (by omega)])
  ·((try simp only [put_get,put_size,Bool.not_true,Bool.not_false]);(repeat first|rw [if_pos trivial]|rw [if_neg (by omega)]|rw [if_pos (by omega)]);try first|with_reducible rfl|assumption);first|done|(simp only [Bool.true_or,Bool.false_or,Bool.not_true,Bool.not_false,Bool.false_and,Bool.true_and])
 |false=>
  refine st_fieldAddr (k:=ks) (.inr ⟨rfl,by omega⟩) (wt (y4 _ true (by ((try simp only [put_get,put_size,Bool.not_true,Bool.not_false]);(repeat first|rw [if_pos trivial]|rw [if_neg (by omega)]|rw [if_pos (by omega)]);try first|with_reducible rfl|assumption)))) (by ((try simp only [put_get,put_size,Bool.not_true,Bool.not_false]);(repeat first|rw [if_pos trivial]|rw [if_neg (by omega)]|rw [if_pos (by omega)]);try first|with_reducible rfl|assumption)) ?_
  refine st_load (ad:=⟨ks,1,none⟩) (v:= .int .i64 x) (by omega) (wt (y4 _ true (by ((try simp only [put_get,put_size,Bool.not_true,Bool.not_false]);(repeat first|rw [if_pos trivial]|rw [if_neg (by omega)]|rw [if_pos (by omega)]);try first|with_reducible rfl|assumption)))) (by ((try simp only [put_get,put_size,Bool.not_true,Bool.not_false]);(repeat first|rw [if_pos trivial]|rw [if_neg (by omega)]|rw [if_pos (by omega)]);try first|with_reducible rfl|assumption)) cs (by intro vs e;cases e) ?_
  refine st_neq (n:=x) (.inl rfl) (wt (y4 _ true (by ((try simp only [put_get,put_size,Bool.not_true,Bool.not_false]);(repeat first|rw [if_pos trivial]|rw [if_neg (by omega)]|rw [if_pos (by omega)]);try first|with_reducible rfl|assumption)))) (by ((try simp only [put_get,put_size,Bool.not_true,Bool.not_false]);(repeat first|rw [if_pos trivial]|rw [if_neg (by omega)]|rw [if_pos (by omega)]);try first|with_reducible rfl|assumption)) ?_
  refine st_pickT (v:= .bool (x !=0)) wo (by ((try simp only [put_get,put_size,Bool.not_true,Bool.not_false]);(repeat first|rw [if_pos trivial]|rw [if_neg (by omega)]|rw [if_pos (by omega)]);try first|with_reducible rfl|assumption)) (eval_get (by ((try simp only [put_get,put_size,Bool.not_true,Bool.not_false]);(repeat first|rw [if_pos trivial]|rw [if_neg (by omega)]|rw [if_pos (by omega)]);try first|with_reducible rfl|assumption))) ?_
  refine h _ (by simp only [put_size]) (by simp only [put_defers]) (fun k hk=>?_) ?_
  ·simp only [put_get,put_size];(repeat rw [if_neg (by omega)])
  ·((try simp only [put_get,put_size,Bool.not_true,Bool.not_false]);(repeat first|rw [if_pos trivial]|rw [if_neg (by omega)]|rw [if_pos (by omega)]);try first|with_reducible rfl|assumption);first|done|(simp only [Bool.true_or,Bool.false_or,Bool.not_true,Bool.not_false,Bool.false_and,Bool.true_and])
theorem clauseI {ty0 ty1 ty2 ty3 ty4 ty5 ty6 ty7 ty8 ty9:TypeId}{ps0 ps1 ps2 ps3 ps4 ps5 ps6 ps7 ps8 ps9:String}{af0 af1 af2 af3 af4 af5 af6 af7 af8 af9:Array Edge}(t m r f g:Nat){T:Nat}{x:Int}(hT:T=3\/T=2){kf ks:Nat}{acc b:Bool}(hr:r<t)(ht:5<t)(hsz:t+10<=a.tmps.size)(hacc:a.tmps[r]?=some (.bool acc))(h5:a.tmps[5]?=some (.pointer (some ⟨kf,0,none⟩)))(h3:a.tmps[3]?=some (.pointer (some ⟨ks,0,none⟩)))(hf:f<7)(hg:g<8)(hm:(ops[m]?).bind (·.dst)=some t)(hm4:(ops[m+4]?).bind (·.dst)=some (t+4))(cf:w.cell? ⟨kf,f,none⟩=some (.bool b))(cs:w.cell? ⟨ks,g,none⟩=some (.int .i64 x))
  (h:∀ a':Act,a'.tmps.size=a.tmps.size->a'.defers=a.defers->(∀ k,k<t\/t+10<=k->a'.tmps[k]?=a.tmps[k]?)->a'.tmps[t+9]?=some (.bool (acc || (!b && (x !=0))))->wpList Tryz.prog ops Q rest a' w):
  wpList Tryz.prog ops Q ({ dst:=some (t),op:= .move (.tmp r),type:=ty0,pos:=ps0,after:=af0,guard:=none} ::
   { dst:=some (t+1),op:= .fieldAddr 176 (.tmp 5) f,type:=ty1,pos:=ps1,after:=af1,guard:=some (m,false)} ::
   { dst:=some (t+2),op:= .load 4 (.tmp (t+1)),type:=ty2,pos:=ps2,after:=af2,guard:=some (m,false)} ::
   { dst:=some (t+3),op:= .unOp .not 4 (.tmp (t+2)),type:=ty3,pos:=ps3,after:=af3,guard:=some (m,false)} ::
   { dst:=some (t+4),op:= .move (.tmp (t+3)),type:=ty4,pos:=ps4,after:=af4,guard:=some (m,false)} ::
   { dst:=some (t+5),op:= .fieldAddr 66 (.tmp 3) g,type:=ty5,pos:=ps5,after:=af5,guard:=some (m+4,true)} ::
   { dst:=some (t+6),op:= .load T (.tmp (t+5)),type:=ty6,pos:=ps6,after:=af6,guard:=some (m+4,true)} ::
   { dst:=some (t+7),op:= .binOp .neq T (.tmp (t+6)) (.const (.int .i64 0)) T,type:=ty7,pos:=ps7,after:=af7,guard:=some (m+4,true)} ::
   { dst:=some (t+8),op:= .pick (.tmp (t+4)) (.tmp (t+7)) (.const (.bool false)),type:=ty8,pos:=ps8,after:=af8,guard:=some (m,false)} ::
   { dst:=some (t+9),op:= .pick (.tmp t) (.const (.bool true)) (.tmp (t+8)),type:=ty9,pos:=ps9,after:=af9,guard:=none} :: rest) a w:=by
 refine st_move wo hacc ?_
 have y0:∀ a1:Act,a1.tmps[t]?=some (.bool acc)->yielded ops a1.tmps m=some acc:=fun a1 e=>yl hm e
 have y4:∀ (a1:Act) (bb:Bool),a1.tmps[t+4]?=some (.bool bb)->yielded ops a1.tmps (m+4)=some bb:=fun a1 bb e=>yl hm4 e
 have n4:∀ (a1:Act),a1.tmps[t+4]?=some undef->yielded ops a1.tmps (m+4)=none:=fun a1 e=>yn hm4 e
 cases acc with
 |true=>
  refine st_skip (wf (by rw [y0 _ (by ((try simp only [put_get,put_size,Bool.not_true,Bool.not_false]);(repeat first|rw [if_pos trivial]|rw [if_neg (by omega)]|rw [if_pos (by omega)]);try first|with_reducible rfl|assumption))];decide)) ?_
  refine st_skip (wf (by rw [y0 _ (by ((try simp only [put_get,put_size,Bool.not_true,Bool.not_false]);(repeat first|rw [if_pos trivial]|rw [if_neg (by omega)]|rw [if_pos (by omega)]);try first|with_reducible rfl|assumption))];decide)) ?_
  refine st_skip (wf (by rw [y0 _ (by ((try simp only [put_get,put_size,Bool.not_true,Bool.not_false]);(repeat first|rw [if_pos trivial]|rw [if_neg (by omega)]|rw [if_pos (by omega)]);try first|with_reducible rfl|assumption))];decide)) ?_
  refine st_skip (wf (by rw [y0 _ (by ((try simp only [put_get,put_size,Bool.not_true,Bool.not_false]);(repeat first|rw [if_pos trivial]|rw [if_neg (by omega)]|rw [if_pos (by omega)]);try first|with_reducible rfl|assumption))];decide)) ?_
  refine st_skip (wf (by rw [n4 _ (by ((try simp only [put_get,put_size,Bool.not_true,Bool.not_false]);(repeat first|rw [if_pos trivial]|rw [if_neg (by omega)]|rw [if_pos (by omega)]);try first|with_reducible rfl|assumption))];decide)) ?_
  refine st_skip (wf (by rw [n4 _ (by ((try simp only [put_get,put_size,Bool.not_true,Bool.not_false]);(repeat first|rw [if_pos trivial]|rw [if_neg (by omega)]|rw [if_pos (by omega)]);try first|with_reducible rfl|assumption))];decide)) ?_
  refine st_skip (wf (by rw [n4 _ (by ((try simp only [put_get,put_size,Bool.not_true,Bool.not_false]);(repeat first|rw [if_pos trivial]|rw [if_neg (by omega)]|rw [if_pos (by omega)]);try first|with_reducible rfl|assumption))];decide)) ?_
  refine st_skip (wf (by rw [y0 _ (by ((try simp only [put_get,put_size,Bool.not_true,Bool.not_false]);(repeat first|rw [if_pos trivial]|rw [if_neg (by omega)]|rw [if_pos (by omega)]);try first|with_reducible rfl|assumption))];decide)) ?_
  refine st_pickT (v:= .bool true) wo (by ((try simp only [put_get,put_size,Bool.not_true,Bool.not_false]);(repeat first|rw [if_pos trivial]|rw [if_neg (by omega)]|rw [if_pos (by omega)]);try first|with_reducible rfl|assumption)) rfl ?_
  refine h _ (by simp only [put_size]) (by simp only [put_defers]) (fun k hk=>?_) ?_
  ·simp only [put_get,put_size];(repeat rw [if_neg (by omega)])
  ·((try simp only [put_get,put_size,Bool.not_true,Bool.not_false]);(repeat first|rw [if_pos trivial]|rw [if_neg (by omega)]|rw [if_pos (by omega)]);try first|with_reducible rfl|assumption);first|done|(simp only [Bool.true_or,Bool.false_or,Bool.not_true,Bool.not_false,Bool.false_and,Bool.true_and])
 |false=>
  refine st_fieldAddr (.inl ⟨rfl,hf⟩) (wt (y0 _ (by ((try simp only [put_get,put_size,Bool.not_true,Bool.not_false]);(repeat first|rw [if_pos trivial]|rw [if_neg (by omega)]|rw [if_pos (by omega)]);try first|with_reducible rfl|assumption)))) (by ((try simp only [put_get,put_size,Bool.not_true,Bool.not_false]);(repeat first|rw [if_pos trivial]|rw [if_neg (by omega)]|rw [if_pos (by omega)]);try first|with_reducible rfl|assumption)) ?_
  refine st_load (ad:=⟨kf,f,none⟩) (v:= .bool b) (.inr (.inr (.inl rfl))) (wt (y0 _ (by ((try simp only [put_get,put_size,Bool.not_true,Bool.not_false]);(repeat first|rw [if_pos trivial]|rw [if_neg (by omega)]|rw [if_pos (by omega)]);try first|with_reducible rfl|assumption)))) (by ((try simp only [put_get,put_size,Bool.not_true,Bool.not_false]);(repeat first|rw [if_pos trivial]|rw [if_neg (by omega)]|rw [if_pos (by omega)]);try first|with_reducible rfl|assumption)) cf (by intro vs e;cases e) ?_
  refine st_not (b:=b) (wt (y0 _ (by ((try simp only [put_get,put_size,Bool.not_true,Bool.not_false]);(repeat first|rw [if_pos trivial]|rw [if_neg (by omega)]|rw [if_pos (by omega)]);try first|with_reducible rfl|assumption)))) (by ((try simp only [put_get,put_size,Bool.not_true,Bool.not_false]);(repeat first|rw [if_pos trivial]|rw [if_neg (by omega)]|rw [if_pos (by omega)]);try first|with_reducible rfl|assumption)) ?_
  refine st_move (v:= .bool !b) (wt (y0 _ (by ((try simp only [put_get,put_size,Bool.not_true,Bool.not_false]);(repeat first|rw [if_pos trivial]|rw [if_neg (by omega)]|rw [if_pos (by omega)]);try first|with_reducible rfl|assumption)))) (by ((try simp only [put_get,put_size,Bool.not_true,Bool.not_false]);(repeat first|rw [if_pos trivial]|rw [if_neg (by omega)]|rw [if_pos (by omega)]);try first|with_reducible rfl|assumption)) ?_
  cases b with
  |true=>
   refine st_skip (wf (by rw [y4 _ false (by ((try simp only [put_get,put_size,Bool.not_true,Bool.not_false]);(repeat first|rw [if_pos trivial]|rw [if_neg (by omega)]|rw [if_pos (by omega)]);try first|with_reducible rfl|assumption))];decide)) ?_
   refine st_skip (wf (by rw [y4 _ false (by ((try simp only [put_get,put_size,Bool.not_true,Bool.not_false]);(repeat first|rw [if_pos trivial]|rw [if_neg (by omega)]|rw [if_pos (by omega)]);try first|with_reducible rfl|assumption))];decide)) ?_
   refine st_skip (wf (by rw [y4 _ false (by ((try simp only [put_get,put_size,Bool.not_true,Bool.not_false]);(repeat first|rw [if_pos trivial]|rw [if_neg (by omega)]|rw [if_pos (by omega)]);try first|with_reducible rfl|assumption))];decide)) ?_
   refine st_pickF (v:= .bool false) (wt (y0 _ (by ((try simp only [put_get,put_size,Bool.not_true,Bool.not_false]);(repeat first|rw [if_pos trivial]|rw [if_neg (by omega)]|rw [if_pos (by omega)]);try first|with_reducible rfl|assumption)))) (by ((try simp only [put_get,put_size,Bool.not_true,Bool.not_false]);(repeat first|rw [if_pos trivial]|rw [if_neg (by omega)]|rw [if_pos (by omega)]);try first|with_reducible rfl|assumption)) rfl ?_
   refine st_pickF (v:= .bool false) wo (by ((try simp only [put_get,put_size,Bool.not_true,Bool.not_false]);(repeat first|rw [if_pos trivial]|rw [if_neg (by omega)]|rw [if_pos (by omega)]);try first|with_reducible rfl|assumption)) (eval_get (by ((try simp only [put_get,put_size,Bool.not_true,Bool.not_false]);(repeat first|rw [if_pos trivial]|rw [if_neg (by omega)]|rw [if_pos (by omega)]);try first|with_reducible rfl|assumption))) ?_
   refine h _ (by simp only [put_size]) (by simp only [put_defers]) (fun k hk=>?_) ?_
   ·simp only [put_get,put_size];(repeat rw [if_neg (by omega)])
   ·((try simp only [put_get,put_size,Bool.not_true,Bool.not_false]);(repeat first|rw [if_pos trivial]|rw [if_neg (by omega)]|rw [if_pos (by omega)]);try first|with_reducible rfl|assumption);first|done|(simp only [Bool.true_or,Bool.false_or,Bool.not_true,Bool.not_false,Bool.false_and,Bool.true_and])
  |false=>
   refine st_fieldAddr (k:=ks) (.inr ⟨rfl,hg⟩) (wt (y4 _ true (by ((try simp only [put_get,put_size,Bool.not_true,Bool.not_false]);(repeat first|rw [if_pos trivial]|rw [if_neg (by omega)]|rw [if_pos (by omega)]);try first|with_reducible rfl|assumption)))) (by ((try simp only [put_get,put_size,Bool.not_true,Bool.not_false]);(repeat first|rw [if_pos trivial]|rw [if_neg (by omega)]|rw [if_pos (by omega)]);try first|with_reducible rfl|assumption)) ?_
   refine st_load (ad:=⟨ks,g,none⟩) (v:= .int .i64 x) (by omega) (wt (y4 _ true (by ((try simp only [put_get,put_size,Bool.not_true,Bool.not_false]);(repeat first|rw [if_pos trivial]|rw [if_neg (by omega)]|rw [if_pos (by omega)]);try first|with_reducible rfl|assumption)))) (by ((try simp only [put_get,put_size,Bool.not_true,Bool.not_false]);(repeat first|rw [if_pos trivial]|rw [if_neg (by omega)]|rw [if_pos (by omega)]);try first|with_reducible rfl|assumption)) cs (by intro vs e;cases e) ?_
   refine st_neq (n:=x) hT (wt (y4 _ true (by ((try simp only [put_get,put_size,Bool.not_true,Bool.not_false]);(repeat first|rw [if_pos trivial]|rw [if_neg (by omega)]|rw [if_pos (by omega)]);try first|with_reducible rfl|assumption)))) (by ((try simp only [put_get,put_size,Bool.not_true,Bool.not_false]);(repeat first|rw [if_pos trivial]|rw [if_neg (by omega)]|rw [if_pos (by omega)]);try first|with_reducible rfl|assumption)) ?_
   refine st_pickT (v:=(.bool (x !=0))) (wt (y0 _ (by ((try simp only [put_get,put_size,Bool.not_true,Bool.not_false]);(repeat first|rw [if_pos trivial]|rw [if_neg (by omega)]|rw [if_pos (by omega)]);try first|with_reducible rfl|assumption)))) (by ((try simp only [put_get,put_size,Bool.not_true,Bool.not_false]);(repeat first|rw [if_pos trivial]|rw [if_neg (by omega)]|rw [if_pos (by omega)]);try first|with_reducible rfl|assumption)) (eval_get (by ((try simp only [put_get,put_size,Bool.not_true,Bool.not_false]);(repeat first|rw [if_pos trivial]|rw [if_neg (by omega)]|rw [if_pos (by omega)]);try first|with_reducible rfl|assumption))) ?_
   refine st_pickF (v:=(.bool (x !=0))) wo (by ((try simp only [put_get,put_size,Bool.not_true,Bool.not_false]);(repeat first|rw [if_pos trivial]|rw [if_neg (by omega)]|rw [if_pos (by omega)]);try first|with_reducible rfl|assumption)) (eval_get (by ((try simp only [put_get,put_size,Bool.not_true,Bool.not_false]);(repeat first|rw [if_pos trivial]|rw [if_neg (by omega)]|rw [if_pos (by omega)]);try first|with_reducible rfl|assumption))) ?_
   refine h _ (by simp only [put_size]) (by simp only [put_defers]) (fun k hk=>?_) ?_
   ·simp only [put_get,put_size];(repeat rw [if_neg (by omega)])
   ·((try simp only [put_get,put_size,Bool.not_true,Bool.not_false]);(repeat first|rw [if_pos trivial]|rw [if_neg (by omega)]|rw [if_pos (by omega)]);try first|with_reducible rfl|assumption);first|done|(simp only [Bool.true_or,Bool.false_or,Bool.not_true,Bool.not_false,Bool.false_and,Bool.true_and])
theorem clauseL {ty0 ty1 ty2 ty3 ty4 ty5 ty6 ty7 ty8 ty9 ty10:TypeId}{ps0 ps1 ps2 ps3 ps4 ps5 ps6 ps7 ps8 ps9 ps10:String}{af0 af1 af2 af3 af4 af5 af6 af7 af8 af9 af10:Array Edge}(t m r f g:Nat){T:Nat}{A:Option Addr}{x cx:Nat}(hT:T=25){kf ks:Nat}{acc b:Bool}(hr:r<t)(ht:5<t)(hsz:t+11<=a.tmps.size)(hacc:a.tmps[r]?=some (.bool acc))(h5:a.tmps[5]?=some (.pointer (some ⟨kf,0,none⟩)))(h3:a.tmps[3]?=some (.pointer (some ⟨ks,0,none⟩)))(hf:f<7)(hg:g<8)(hm:(ops[m]?).bind (·.dst)=some t)(hm4:(ops[m+4]?).bind (·.dst)=some (t+4))(cf:w.cell? ⟨kf,f,none⟩=some (.bool b))(cs:w.cell? ⟨ks,g,none⟩=some (.slice A x cx))
  (h:∀ a':Act,a'.tmps.size=a.tmps.size->a'.defers=a.defers->(∀ k,k<t\/t+11<=k->a'.tmps[k]?=a.tmps[k]?)->a'.tmps[t+10]?=some (.bool (acc || (!b && (decide (0<(x:Int))))))->wpList Tryz.prog ops Q rest a' w):
  wpList Tryz.prog ops Q ({ dst:=some (t),op:= .move (.tmp r),type:=ty0,pos:=ps0,after:=af0,guard:=none} ::
   { dst:=some (t+1),op:= .fieldAddr 176 (.tmp 5) f,type:=ty1,pos:=ps1,after:=af1,guard:=some (m,false)} ::
   { dst:=some (t+2),op:= .load 4 (.tmp (t+1)),type:=ty2,pos:=ps2,after:=af2,guard:=some (m,false)} ::
   { dst:=some (t+3),op:= .unOp .not 4 (.tmp (t+2)),type:=ty3,pos:=ps3,after:=af3,guard:=some (m,false)} ::
   { dst:=some (t+4),op:= .move (.tmp (t+3)),type:=ty4,pos:=ps4,after:=af4,guard:=some (m,false)} ::
   { dst:=some (t+5),op:= .fieldAddr 66 (.tmp 3) g,type:=ty5,pos:=ps5,after:=af5,guard:=some (m+4,true)} ::
   { dst:=some (t+6),op:= .load T (.tmp (t+5)),type:=ty6,pos:=ps6,after:=af6,guard:=some (m+4,true)} ::
   { dst:=some (t+7),op:= .call { callee:= .builtin .len,args:= #[.tmp (t+6)],argTypes:= #[T]},type:=ty7,pos:=ps7,after:=af7,guard:=some (m+4,true)} ::
   { dst:=some (t+8),op:= .binOp .gtr 3 (.tmp (t+7)) (.const (.int .i64 0)) 3,type:=ty8,pos:=ps8,after:=af8,guard:=some (m+4,true)} ::
   { dst:=some (t+9),op:= .pick (.tmp (t+4)) (.tmp (t+8)) (.const (.bool false)),type:=ty9,pos:=ps9,after:=af9,guard:=some (m,false)} ::
   { dst:=some (t+10),op:= .pick (.tmp t) (.const (.bool true)) (.tmp (t+9)),type:=ty10,pos:=ps10,after:=af10,guard:=none} :: rest) a w:=by
 refine st_move wo hacc ?_
 have y0:∀ a1:Act,a1.tmps[t]?=some (.bool acc)->yielded ops a1.tmps m=some acc:=fun a1 e=>yl hm e
 have y4:∀ (a1:Act) (bb:Bool),a1.tmps[t+4]?=some (.bool bb)->yielded ops a1.tmps (m+4)=some bb:=fun a1 bb e=>yl hm4 e
 have n4:∀ (a1:Act),a1.tmps[t+4]?=some undef->yielded ops a1.tmps (m+4)=none:=fun a1 e=>yn hm4 e
 cases acc with
 |true=>
  refine st_skip (wf (by rw [y0 _ (by ((try simp only [put_get,put_size,Bool.not_true,Bool.not_false]);(repeat first|rw [if_pos trivial]|rw [if_neg (by omega)]|rw [if_pos (by omega)]);try first|with_reducible rfl|assumption))];decide)) ?_
  refine st_skip (wf (by rw [y0 _ (by ((try simp only [put_get,put_size,Bool.not_true,Bool.not_false]);(repeat first|rw [if_pos trivial]|rw [if_neg (by omega)]|rw [if_pos (by omega)]);try first|with_reducible rfl|assumption))];decide)) ?_
  refine st_skip (wf (by rw [y0 _ (by ((try simp only [put_get,put_size,Bool.not_true,Bool.not_false]);(repeat first|rw [if_pos trivial]|rw [if_neg (by omega)]|rw [if_pos (by omega)]);try first|with_reducible rfl|assumption))];decide)) ?_
  refine st_skip (wf (by rw [y0 _ (by ((try simp only [put_get,put_size,Bool.not_true,Bool.not_false]);(repeat first|rw [if_pos trivial]|rw [if_neg (by omega)]|rw [if_pos (by omega)]);try first|with_reducible rfl|assumption))];decide)) ?_
  refine st_skip (wf (by rw [n4 _ (by ((try simp only [put_get,put_size,Bool.not_true,Bool.not_false]);(repeat first|rw [if_pos trivial]|rw [if_neg (by omega)]|rw [if_pos (by omega)]);try first|with_reducible rfl|assumption))];decide)) ?_
  refine st_skip (wf (by rw [n4 _ (by ((try simp only [put_get,put_size,Bool.not_true,Bool.not_false]);(repeat first|rw [if_pos trivial]|rw [if_neg (by omega)]|rw [if_pos (by omega)]);try first|with_reducible rfl|assumption))];decide)) ?_
  refine st_skip (wf (by rw [n4 _ (by ((try simp only [put_get,put_size,Bool.not_true,Bool.not_false]);(repeat first|rw [if_pos trivial]|rw [if_neg (by omega)]|rw [if_pos (by omega)]);try first|with_reducible rfl|assumption))];decide)) ?_
  refine st_skip (wf (by rw [n4 _ (by ((try simp only [put_get,put_size,Bool.not_true,Bool.not_false]);(repeat first|rw [if_pos trivial]|rw [if_neg (by omega)]|rw [if_pos (by omega)]);try first|with_reducible rfl|assumption))];decide)) ?_
  refine st_skip (wf (by rw [y0 _ (by ((try simp only [put_get,put_size,Bool.not_true,Bool.not_false]);(repeat first|rw [if_pos trivial]|rw [if_neg (by omega)]|rw [if_pos (by omega)]);try first|with_reducible rfl|assumption))];decide)) ?_
  refine st_pickT (v:= .bool true) wo (by ((try simp only [put_get,put_size,Bool.not_true,Bool.not_false]);(repeat first|rw [if_pos trivial]|rw [if_neg (by omega)]|rw [if_pos (by omega)]);try first|with_reducible rfl|assumption)) rfl ?_
  refine h _ (by simp only [put_size]) (by simp only [put_defers]) (fun k hk=>?_) ?_
  ·simp only [put_get,put_size];(repeat rw [if_neg (by omega)])
  ·((try simp only [put_get,put_size,Bool.not_true,Bool.not_false]);(repeat first|rw [if_pos trivial]|rw [if_neg (by omega)]|rw [if_pos (by omega)]);try first|with_reducible rfl|assumption);first|done|(simp only [Bool.true_or,Bool.false_or,Bool.not_true,Bool.not_false,Bool.false_and,Bool.true_and])
 |false=>
  refine st_fieldAddr (.inl ⟨rfl,hf⟩) (wt (y0 _ (by ((try simp only [put_get,put_size,Bool.not_true,Bool.not_false]);(repeat first|rw [if_pos trivial]|rw [if_neg (by omega)]|rw [if_pos (by omega)]);try first|with_reducible rfl|assumption)))) (by ((try simp only [put_get,put_size,Bool.not_true,Bool.not_false]);(repeat first|rw [if_pos trivial]|rw [if_neg (by omega)]|rw [if_pos (by omega)]);try first|with_reducible rfl|assumption)) ?_
  refine st_load (ad:=⟨kf,f,none⟩) (v:= .bool b) (.inr (.inr (.inl rfl))) (wt (y0 _ (by ((try simp only [put_get,put_size,Bool.not_true,Bool.not_false]);(repeat first|rw [if_pos trivial]|rw [if_neg (by omega)]|rw [if_pos (by omega)]);try first|with_reducible rfl|assumption)))) (by ((try simp only [put_get,put_size,Bool.not_true,Bool.not_false]);(repeat first|rw [if_pos trivial]|rw [if_neg (by omega)]|rw [if_pos (by omega)]);try first|with_reducible rfl|assumption)) cf (by intro vs e;cases e) ?_
  refine st_not (b:=b) (wt (y0 _ (by ((try simp only [put_get,put_size,Bool.not_true,Bool.not_false]);(repeat first|rw [if_pos trivial]|rw [if_neg (by omega)]|rw [if_pos (by omega)]);try first|with_reducible rfl|assumption)))) (by ((try simp only [put_get,put_size,Bool.not_true,Bool.not_false]);(repeat first|rw [if_pos trivial]|rw [if_neg (by omega)]|rw [if_pos (by omega)]);try first|with_reducible rfl|assumption)) ?_
  refine st_move (v:= .bool !b) (wt (y0 _ (by ((try simp only [put_get,put_size,Bool.not_true,Bool.not_false]);(repeat first|rw [if_pos trivial]|rw [if_neg (by omega)]|rw [if_pos (by omega)]);try first|with_reducible rfl|assumption)))) (by ((try simp only [put_get,put_size,Bool.not_true,Bool.not_false]);(repeat first|rw [if_pos trivial]|rw [if_neg (by omega)]|rw [if_pos (by omega)]);try first|with_reducible rfl|assumption)) ?_
  cases b with
  |true=>
   refine st_skip (wf (by rw [y4 _ false (by ((try simp only [put_get,put_size,Bool.not_true,Bool.not_false]);(repeat first|rw [if_pos trivial]|rw [if_neg (by omega)]|rw [if_pos (by omega)]);try first|with_reducible rfl|assumption))];decide)) ?_
   refine st_skip (wf (by rw [y4 _ false (by ((try simp only [put_get,put_size,Bool.not_true,Bool.not_false]);(repeat first|rw [if_pos trivial]|rw [if_neg (by omega)]|rw [if_pos (by omega)]);try first|with_reducible rfl|assumption))];decide)) ?_
   refine st_skip (wf (by rw [y4 _ false (by ((try simp only [put_get,put_size,Bool.not_true,Bool.not_false]);(repeat first|rw [if_pos trivial]|rw [if_neg (by omega)]|rw [if_pos (by omega)]);try first|with_reducible rfl|assumption))];decide)) ?_
   refine st_skip (wf (by rw [y4 _ false (by ((try simp only [put_get,put_size,Bool.not_true,Bool.not_false]);(repeat first|rw [if_pos trivial]|rw [if_neg (by omega)]|rw [if_pos (by omega)]);try first|with_reducible rfl|assumption))];decide)) ?_
   refine st_pickF (v:= .bool false) (wt (y0 _ (by ((try simp only [put_get,put_size,Bool.not_true,Bool.not_false]);(repeat first|rw [if_pos trivial]|rw [if_neg (by omega)]|rw [if_pos (by omega)]);try first|with_reducible rfl|assumption)))) (by ((try simp only [put_get,put_size,Bool.not_true,Bool.not_false]);(repeat first|rw [if_pos trivial]|rw [if_neg (by omega)]|rw [if_pos (by omega)]);try first|with_reducible rfl|assumption)) rfl ?_
   refine st_pickF (v:= .bool false) wo (by ((try simp only [put_get,put_size,Bool.not_true,Bool.not_false]);(repeat first|rw [if_pos trivial]|rw [if_neg (by omega)]|rw [if_pos (by omega)]);try first|with_reducible rfl|assumption)) (eval_get (by ((try simp only [put_get,put_size,Bool.not_true,Bool.not_false]);(repeat first|rw [if_pos trivial]|rw [if_neg (by omega)]|rw [if_pos (by omega)]);try first|with_reducible rfl|assumption))) ?_
   refine h _ (by simp only [put_size]) (by simp only [put_defers]) (fun k hk=>?_) ?_
   ·simp only [put_get,put_size];(repeat rw [if_neg (by omega)])
   ·((try simp only [put_get,put_size,Bool.not_true,Bool.not_false]);(repeat first|rw [if_pos trivial]|rw [if_neg (by omega)]|rw [if_pos (by omega)]);try first|with_reducible rfl|assumption);first|done|(simp only [Bool.true_or,Bool.false_or,Bool.not_true,Bool.not_false,Bool.false_and,Bool.true_and])
  |false=>
   refine st_fieldAddr (k:=ks) (.inr ⟨rfl,hg⟩) (wt (y4 _ true (by ((try simp only [put_get,put_size,Bool.not_true,Bool.not_false]);(repeat first|rw [if_pos trivial]|rw [if_neg (by omega)]|rw [if_pos (by omega)]);try first|with_reducible rfl|assumption)))) (by ((try simp only [put_get,put_size,Bool.not_true,Bool.not_false]);(repeat first|rw [if_pos trivial]|rw [if_neg (by omega)]|rw [if_pos (by omega)]);try first|with_reducible rfl|assumption)) ?_
   refine st_load (ad:=⟨ks,g,none⟩) (v:= .slice A x cx) (by omega) (wt (y4 _ true (by ((try simp only [put_get,put_size,Bool.not_true,Bool.not_false]);(repeat first|rw [if_pos trivial]|rw [if_neg (by omega)]|rw [if_pos (by omega)]);try first|with_reducible rfl|assumption)))) (by ((try simp only [put_get,put_size,Bool.not_true,Bool.not_false]);(repeat first|rw [if_pos trivial]|rw [if_neg (by omega)]|rw [if_pos (by omega)]);try first|with_reducible rfl|assumption)) cs (by intro vs e;cases e) ?_
   refine st_len (A:=A) (n:=x) (c:=cx) hT (wt (y4 _ true (by ((try simp only [put_get,put_size,Bool.not_true,Bool.not_false]);(repeat first|rw [if_pos trivial]|rw [if_neg (by omega)]|rw [if_pos (by omega)]);try first|with_reducible rfl|assumption)))) (by ((try simp only [put_get,put_size,Bool.not_true,Bool.not_false]);(repeat first|rw [if_pos trivial]|rw [if_neg (by omega)]|rw [if_pos (by omega)]);try first|with_reducible rfl|assumption)) ?_
   refine st_gtr (n:=(x:Int)) (wt (y4 _ true (by ((try simp only [put_get,put_size,Bool.not_true,Bool.not_false]);(repeat first|rw [if_pos trivial]|rw [if_neg (by omega)]|rw [if_pos (by omega)]);try first|with_reducible rfl|assumption)))) (by ((try simp only [put_get,put_size,Bool.not_true,Bool.not_false]);(repeat first|rw [if_pos trivial]|rw [if_neg (by omega)]|rw [if_pos (by omega)]);try first|with_reducible rfl|assumption)) ?_
   refine st_pickT (v:=(.bool (decide (0<(x:Int))))) (wt (y0 _ (by ((try simp only [put_get,put_size,Bool.not_true,Bool.not_false]);(repeat first|rw [if_pos trivial]|rw [if_neg (by omega)]|rw [if_pos (by omega)]);try first|with_reducible rfl|assumption)))) (by ((try simp only [put_get,put_size,Bool.not_true,Bool.not_false]);(repeat first|rw [if_pos trivial]|rw [if_neg (by omega)]|rw [if_pos (by omega)]);try first|with_reducible rfl|assumption)) (eval_get (by ((try simp only [put_get,put_size,Bool.not_true,Bool.not_false]);(repeat first|rw [if_pos trivial]|rw [if_neg (by omega)]|rw [if_pos (by omega)]);try first|with_reducible rfl|assumption))) ?_
   refine st_pickF (v:=(.bool (decide (0<(x:Int))))) wo (by ((try simp only [put_get,put_size,Bool.not_true,Bool.not_false]);(repeat first|rw [if_pos trivial]|rw [if_neg (by omega)]|rw [if_pos (by omega)]);try first|with_reducible rfl|assumption)) (eval_get (by ((try simp only [put_get,put_size,Bool.not_true,Bool.not_false]);(repeat first|rw [if_pos trivial]|rw [if_neg (by omega)]|rw [if_pos (by omega)]);try first|with_reducible rfl|assumption))) ?_
   refine h _ (by simp only [put_size]) (by simp only [put_defers]) (fun k hk=>?_) ?_
   ·simp only [put_get,put_size];(repeat rw [if_neg (by omega)])
   ·((try simp only [put_get,put_size,Bool.not_true,Bool.not_false]);(repeat first|rw [if_pos trivial]|rw [if_neg (by omega)]|rw [if_pos (by omega)]);try first|with_reducible rfl|assumption);first|done|(simp only [Bool.true_or,Bool.false_or,Bool.not_true,Bool.not_false,Bool.false_and,Bool.true_and])
end
set_option maxHeartbeats 200000
theorem len_succ {α:Type}{l:List α}{n:Nat}(h:l.length=n+1):∃ x l',l=x :: l'/\l'.length=n:=by
 cases l with
 |nil=>simp at h
 |cons x l'=>exact⟨x,l',rfl,by simpa using h⟩
theorem splice {α:Type}{L l:List α}{v:α}(hL:L.length=136)(hl:l.length=136)(hk:∀ k,k<49\/119<=k->l[k]?=L[k]?)(hv:l[118]?=some v):l=L.take 49++((l.drop 49).take 69++v :: L.drop 119):=by
 apply List.ext_getElem?
 intro k
 have l1:(L.take 49).length=49:=by simp;omega
 have l2:((l.drop 49).take 69).length=69:=by simp;omega
 by_cases h1:k<49
 ·rw [List.getElem?_append_left (by omega),hk k (.inl h1),List.getElem?_take_of_lt h1]
 rw [List.getElem?_append_right (by omega),l1]
 by_cases h2:k<118
 ·rw [List.getElem?_append_left (by omega),List.getElem?_take_of_lt (by omega),List.getElem?_drop]
  congr 1;omega
 rw [List.getElem?_append_right (by omega),l2]
 by_cases h3:k=118
 ·subst h3;rw [hv];rfl
 obtain⟨j,rfl⟩:∃ j,k=119+j:=⟨k - 119,by omega⟩
 rw [hk _ (.inr (by omega)),show 119+j - 49 - 69=j+1 by omega,List.getElem?_cons_succ,List.getElem?_drop]
theorem list69 {m:List Value}{G:List Value->Prop}(hm:m.length=69)(h:∀ u49 u50 u51 u52 u53 u54 u55 u56 u57 u58 u59 u60 u61 u62 u63 u64 u65 u66 u67 u68 u69 u70 u71 u72 u73 u74 u75 u76 u77 u78 u79 u80 u81 u82 u83 u84 u85 u86 u87 u88 u89 u90 u91 u92 u93 u94 u95 u96 u97 u98 u99 u100 u101 u102 u103 u104 u105 u106 u107 u108 u109 u110 u111 u112 u113 u114 u115 u116 u117,G [u49,u50,u51,u52,u53,u54,u55,u56,u57,u58,u59,u60,u61,u62,u63,u64,u65,u66,u67,u68,u69,u70,u71,u72,u73,u74,u75,u76,u77,u78,u79,u80,u81,u82,u83,u84,u85,u86,u87,u88,u89,u90,u91,u92,u93,u94,u95,u96,u97,u98,u99,u100,u101,u102,u103,u104,u105,u106,u107,u108,u109,u110,u111,u112,u113,u114,u115,u116,u117]):G m:=by
 obtain⟨x49,m49,rfl,h49⟩:=len_succ hm
 clear hm
 obtain⟨x50,m50,rfl,h50⟩:=len_succ h49
 clear h49
 obtain⟨x51,m51,rfl,h51⟩:=len_succ h50
 clear h50
 obtain⟨x52,m52,rfl,h52⟩:=len_succ h51
 clear h51
 obtain⟨x53,m53,rfl,h53⟩:=len_succ h52
 clear h52
 obtain⟨x54,m54,rfl,h54⟩:=len_succ h53
 clear h53
 obtain⟨x55,m55,rfl,h55⟩:=len_succ h54
 clear h54
 obtain⟨x56,m56,rfl,h56⟩:=len_succ h55
 clear h55
 obtain⟨x57,m57,rfl,h57⟩:=len_succ h56
 clear h56
 obtain⟨x58,m58,rfl,h58⟩:=len_succ h57
 clear h57
 obtain⟨x59,m59,rfl,h59⟩:=len_succ h58
 clear h58
 obtain⟨x60,m60,rfl,h60⟩:=len_succ h59
 clear h59
 obtain⟨x61,m61,rfl,h61⟩:=len_succ h60
 clear h60
 obtain⟨x62,m62,rfl,h62⟩:=len_succ h61
 clear h61
 obtain⟨x63,m63,rfl,h63⟩:=len_succ h62
 clear h62
 obtain⟨x64,m64,rfl,h64⟩:=len_succ h63
 clear h63
 obtain⟨x65,m65,rfl,h65⟩:=len_succ h64
 clear h64
 obtain⟨x66,m66,rfl,h66⟩:=len_succ h65
 clear h65
 obtain⟨x67,m67,rfl,h67⟩:=len_succ h66
 clear h66
 obtain⟨x68,m68,rfl,h68⟩:=len_succ h67
 clear h67
 obtain⟨x69,m69,rfl,h69⟩:=len_succ h68
 clear h68
 obtain⟨x70,m70,rfl,h70⟩:=len_succ h69
 clear h69
 obtain⟨x71,m71,rfl,h71⟩:=len_succ h70
 clear h70
 obtain⟨x72,m72,rfl,h72⟩:=len_succ h71
 clear h71
 obtain⟨x73,m73,rfl,h73⟩:=len_succ h72
 clear h72
 obtain⟨x74,m74,rfl,h74⟩:=len_succ h73
 clear h73
 obtain⟨x75,m75,rfl,h75⟩:=len_succ h74
 clear h74
 obtain⟨x76,m76,rfl,h76⟩:=len_succ h75
 clear h75
 obtain⟨x77,m77,rfl,h77⟩:=len_succ h76
 clear h76
 obtain⟨x78,m78,rfl,h78⟩:=len_succ h77
 clear h77
 obtain⟨x79,m79,rfl,h79⟩:=len_succ h78
 clear h78
 obtain⟨x80,m80,rfl,h80⟩:=len_succ h79
 clear h79
 obtain⟨x81,m81,rfl,h81⟩:=len_succ h80
 clear h80
 obtain⟨x82,m82,rfl,h82⟩:=len_succ h81
 clear h81
 obtain⟨x83,m83,rfl,h83⟩:=len_succ h82
 clear h82
 obtain⟨x84,m84,rfl,h84⟩:=len_succ h83
 clear h83
 obtain⟨x85,m85,rfl,h85⟩:=len_succ h84
 clear h84
 obtain⟨x86,m86,rfl,h86⟩:=len_succ h85
 clear h85
 obtain⟨x87,m87,rfl,h87⟩:=len_succ h86
 clear h86
 obtain⟨x88,m88,rfl,h88⟩:=len_succ h87
 clear h87
 obtain⟨x89,m89,rfl,h89⟩:=len_succ h88
 clear h88
 obtain⟨x90,m90,rfl,h90⟩:=len_succ h89
 clear h89
 obtain⟨x91,m91,rfl,h91⟩:=len_succ h90
 clear h90
 obtain⟨x92,m92,rfl,h92⟩:=len_succ h91
 clear h91
 obtain⟨x93,m93,rfl,h93⟩:=len_succ h92
 clear h92
 obtain⟨x94,m94,rfl,h94⟩:=len_succ h93
 clear h93
 obtain⟨x95,m95,rfl,h95⟩:=len_succ h94
 clear h94
 obtain⟨x96,m96,rfl,h96⟩:=len_succ h95
 clear h95
 obtain⟨x97,m97,rfl,h97⟩:=len_succ h96
 clear h96
 obtain⟨x98,m98,rfl,h98⟩:=len_succ h97
 clear h97
 obtain⟨x99,m99,rfl,h99⟩:=len_succ h98
 clear h98
 obtain⟨x100,m100,rfl,h100⟩:=len_succ h99
 clear h99
 obtain⟨x101,m101,rfl,h101⟩:=len_succ h100
 clear h100
 obtain⟨x102,m102,rfl,h102⟩:=len_succ h101
 clear h101
 obtain⟨x103,m103,rfl,h103⟩:=len_succ h102
 clear h102
 obtain⟨x104,m104,rfl,h104⟩:=len_succ h103
 clear h103
 obtain⟨x105,m105,rfl,h105⟩:=len_succ h104
 clear h104
 obtain⟨x106,m106,rfl,h106⟩:=len_succ h105
 clear h105
 obtain⟨x107,m107,rfl,h107⟩:=len_succ h106
 clear h106
 obtain⟨x108,m108,rfl,h108⟩:=len_succ h107
 clear h107
 obtain⟨x109,m109,rfl,h109⟩:=len_succ h108
 clear h108
 obtain⟨x110,m110,rfl,h110⟩:=len_succ h109
 clear h109
 obtain⟨x111,m111,rfl,h111⟩:=len_succ h110
 clear h110
 obtain⟨x112,m112,rfl,h112⟩:=len_succ h111
 clear h111
 obtain⟨x113,m113,rfl,h113⟩:=len_succ h112
 clear h112
 obtain⟨x114,m114,rfl,h114⟩:=len_succ h113
 clear h113
 obtain⟨x115,m115,rfl,h115⟩:=len_succ h114
 clear h114
 obtain⟨x116,m116,rfl,h116⟩:=len_succ h115
 clear h115
 obtain⟨x117,m117,rfl,h117⟩:=len_succ h116
 clear h116
 obtain rfl:=List.eq_nil_of_length_eq_zero h117
 exact h x49 x50 x51 x52 x53 x54 x55 x56 x57 x58 x59 x60 x61 x62 x63 x64 x65 x66 x67 x68 x69 x70 x71 x72 x73 x74 x75 x76 x77 x78 x79 x80 x81 x82 x83 x84 x85 x86 x87 x88 x89 x90 x91 x92 x93 x94 x95 x96 x97 x98 x99 x100 x101 x102 x103 x104 x105 x106 x107 x108 x109 x110 x111 x112 x113 x114 x115 x116 x117
set_option maxHeartbeats 8000000 in
theorem frame_lit {a0 a1 a2 a3 a4 a5 a6 a7 a8 a9 a10 a11 a12 a13 a14 a15 a16 a17 a18 a19 a20 a21 a22 a23 a24 a25 a26 a27 a28 a29 a30 a31 a32 a33 a34 a35 a36 a37 a38 a39 a40 a41 a42 a43 a44 a45 a46 a47 a48 a49 a50 a51 a52 a53 a54 a55 a56 a57 a58 a59 a60 a61 a62 a63 a64 a65 a66 a67 a68 a69 a70 a71 a72 a73 a74 a75 a76 a77 a78 a79 a80 a81 a82 a83 a84 a85 a86 a87 a88 a89 a90 a91 a92 a93 a94 a95 a96 a97 a98 a99 a100 a101 a102 a103 a104 a105 a106 a107 a108 a109 a110 a111 a112 a113 a114 a115 a116 a117 a118 a119 a120 a121 a122 a123 a124 a125 a126 a127 a128 a129 a130 a131 a132 a133 a134 a135:Value}{d:List Deferred}{a':Act}{v:Value}{G:Act->Prop}(hs:a'.tmps.size=136)(hd:a'.defers=d)(hk:∀ k,k<49\/119<=k->a'.tmps[k]?=(#[a0,a1,a2,a3,a4,a5,a6,a7,a8,a9,a10,a11,a12,a13,a14,a15,a16,a17,a18,a19,a20,a21,a22,a23,a24,a25,a26,a27,a28,a29,a30,a31,a32,a33,a34,a35,a36,a37,a38,a39,a40,a41,a42,a43,a44,a45,a46,a47,a48,a49,a50,a51,a52,a53,a54,a55,a56,a57,a58,a59,a60,a61,a62,a63,a64,a65,a66,a67,a68,a69,a70,a71,a72,a73,a74,a75,a76,a77,a78,a79,a80,a81,a82,a83,a84,a85,a86,a87,a88,a89,a90,a91,a92,a93,a94,a95,a96,a97,a98,a99,a100,a101,a102,a103,a104,a105,a106,a107,a108,a109,a110,a111,a112,a113,a114,a115,a116,a117,a118,a119,a120,a121,a122,a123,a124,a125,a126,a127,a128,a129,a130,a131,a132,a133,a134,a135]:Array Value)[k]?)(hv:a'.tmps[118]?=some v)
  (h:∀ u49 u50 u51 u52 u53 u54 u55 u56 u57 u58 u59 u60 u61 u62 u63 u64 u65 u66 u67 u68 u69 u70 u71 u72 u73 u74 u75 u76 u77 u78 u79 u80 u81 u82 u83 u84 u85 u86 u87 u88 u89 u90 u91 u92 u93 u94 u95 u96 u97 u98 u99 u100 u101 u102 u103 u104 u105 u106 u107 u108 u109 u110 u111 u112 u113 u114 u115 u116 u117,G ⟨#[a0,a1,a2,a3,a4,a5,a6,a7,a8,a9,a10,a11,a12,a13,a14,a15,a16,a17,a18,a19,a20,a21,a22,a23,a24,a25,a26,a27,a28,a29,a30,a31,a32,a33,a34,a35,a36,a37,a38,a39,a40,a41,a42,a43,a44,a45,a46,a47,a48,u49,u50,u51,u52,u53,u54,u55,u56,u57,u58,u59,u60,u61,u62,u63,u64,u65,u66,u67,u68,u69,u70,u71,u72,u73,u74,u75,u76,u77,u78,u79,u80,u81,u82,u83,u84,u85,u86,u87,u88,u89,u90,u91,u92,u93,u94,u95,u96,u97,u98,u99,u100,u101,u102,u103,u104,u105,u106,u107,u108,u109,u110,u111,u112,u113,u114,u115,u116,u117,v,a119,a120,a121,a122,a123,a124,a125,a126,a127,a128,a129,a130,a131,a132,a133,a134,a135],d⟩):G a':=by
 obtain⟨⟨l⟩,dd⟩:=a'
 subst hd
 replace hs:l.length=136:=hs
 replace hk:∀ k,k<49\/119<=k->l[k]?=[a0,a1,a2,a3,a4,a5,a6,a7,a8,a9,a10,a11,a12,a13,a14,a15,a16,a17,a18,a19,a20,a21,a22,a23,a24,a25,a26,a27,a28,a29,a30,a31,a32,a33,a34,a35,a36,a37,a38,a39,a40,a41,a42,a43,a44,a45,a46,a47,a48,a49,a50,a51,a52,a53,a54,a55,a56,a57,a58,a59,a60,a61,a62,a63,a64,a65,a66,a67,a68,a69,a70,a71,a72,a73,a74,a75,a76,a77,a78,a79,a80,a81,a82,a83,a84,a85,a86,a87,a88,a89,a90,a91,a92,a93,a94,a95,a96,a97,a98,a99,a100,a101,a102,a103,a104,a105,a106,a107,a108,a109,a110,a111,a112,a113,a114,a115,a116,a117,a118,a119,a120,a121,a122,a123,a124,a125,a126,a127,a128,a129,a130,a131,a132,a133,a134,a135][k]?:=fun k hkk=>by have:=hk k hkk;simpa using this
 replace hv:l[118]?=some v:=by simpa using hv
 rw [splice (L:=[a0,a1,a2,a3,a4,a5,a6,a7,a8,a9,a10,a11,a12,a13,a14,a15,a16,a17,a18,a19,a20,a21,a22,a23,a24,a25,a26,a27,a28,a29,a30,a31,a32,a33,a34,a35,a36,a37,a38,a39,a40,a41,a42,a43,a44,a45,a46,a47,a48,a49,a50,a51,a52,a53,a54,a55,a56,a57,a58,a59,a60,a61,a62,a63,a64,a65,a66,a67,a68,a69,a70,a71,a72,a73,a74,a75,a76,a77,a78,a79,a80,a81,a82,a83,a84,a85,a86,a87,a88,a89,a90,a91,a92,a93,a94,a95,a96,a97,a98,a99,a100,a101,a102,a103,a104,a105,a106,a107,a108,a109,a110,a111,a112,a113,a114,a115,a116,a117,a118,a119,a120,a121,a122,a123,a124,a125,a126,a127,a128,a129,a130,a131,a132,a133,a134,a135]) rfl hs hk hv]
 refine list69 (m:=(l.drop 49).take 69) (G:=fun m=>G ⟨⟨[a0,a1,a2,a3,a4,a5,a6,a7,a8,a9,a10,a11,a12,a13,a14,a15,a16,a17,a18,a19,a20,a21,a22,a23,a24,a25,a26,a27,a28,a29,a30,a31,a32,a33,a34,a35,a36,a37,a38,a39,a40,a41,a42,a43,a44,a45,a46,a47,a48]++(m++v :: [a119,a120,a121,a122,a123,a124,a125,a126,a127,a128,a129,a130,a131,a132,a133,a134,a135])⟩,dd⟩) (by simp;omega) ?_
 intro u49 u50 u51 u52 u53 u54 u55 u56 u57 u58 u59 u60 u61 u62 u63 u64 u65 u66 u67 u68 u69 u70 u71 u72 u73 u74 u75 u76 u77 u78 u79 u80 u81 u82 u83 u84 u85 u86 u87 u88 u89 u90 u91 u92 u93 u94 u95 u96 u97 u98 u99 u100 u101 u102 u103 u104 u105 u106 u107 u108 u109 u110 u111 u112 u113 u114 u115 u116 u117
 exact h u49 u50 u51 u52 u53 u54 u55 u56 u57 u58 u59 u60 u61 u62 u63 u64 u65 u66 u67 u68 u69 u70 u71 u72 u73 u74 u75 u76 u77 u78 u79 u80 u81 u82 u83 u84 u85 u86 u87 u88 u89 u90 u91 u92 u93 u94 u95 u96 u97 u98 u99 u100 u101 u102 u103 u104 u105 u106 u107 u108 u109 u110 u111 u112 u113 u114 u115 u116 u117
end Go.Proofs.YtkplfaionpplaaaGreatDoor
