/- Part 23: B110. -/
import Derived.Test.YtkplfaionpplaaaGreatDoorK22
set_option maxRecDepth 100000
set_option maxHeartbeats 6400000
set_option linter.unusedVariables false
set_option linter.unusedSimpArgs false
namespace Go.Proofs.YtkplfaionpplaaaGreatDoor
open Go.RowKit Go.Proofs.YtkplfaionpplaaaGreatDoorW.PrintWords Go.Proofs.YtkplfaionpplaaaGreatDoorW.PrintLast
def hD (op:Int):Bool:=decide (1<=op/\op<=15)
def hA (op:Int):Bool:=decide (2<=op/\op<=16\/op=18\/op=19)
def hB (op:Int):Bool:=decide (3<=op/\op<=9\/op=13\/op=14\/op=16)
def hC (op:Int):Bool:=decide (op=14)
def hK (op:Int):Bool:=decide (op=1\/10<=op/\op<=12\/15<=op/\op<=20)
def wformV (word:ByteArray)(op:Int):Value:= .agg #[.string word,.bool (hD op),.bool (hA op),.bool (hB op),.bool (hC op),.bool (hK op)]
theorem words_name3 (w:World):Calls Tryz.prog 134 #[.int .i64 3] w fun e w'=>e= .returned (.string { data:= #[97,100,100]})/\w=w':=by
 go_enter Tryz.func134,Tryz.ntmps134
 go_wp2_with fail
 exact bodyPost_ret (v:= .string { data:= #[97,100,100]}) (by simp [results,Tryz.results134,go_sem]) rfl ⟨rfl,rfl⟩
theorem words_name4 (w:World):Calls Tryz.prog 134 #[.int .i64 4] w fun e w'=>e= .returned (.string { data:= #[115,117,98]})/\w=w':=by
 go_enter Tryz.func134,Tryz.ntmps134
 go_wp2_with fail
 exact bodyPost_ret (v:= .string { data:= #[115,117,98]}) (by simp [results,Tryz.results134,go_sem]) rfl ⟨rfl,rfl⟩
theorem words_name5 (w:World):Calls Tryz.prog 134 #[.int .i64 5] w fun e w'=>e= .returned (.string { data:= #[109,117,108]})/\w=w':=by
 go_enter Tryz.func134,Tryz.ntmps134
 go_wp2_with fail
 exact bodyPost_ret (v:= .string { data:= #[109,117,108]}) (by simp [results,Tryz.results134,go_sem]) rfl ⟨rfl,rfl⟩
theorem words_name6 (w:World):Calls Tryz.prog 134 #[.int .i64 6] w fun e w'=>e= .returned (.string { data:= #[104,105,103,104]})/\w=w':=by
 go_enter Tryz.func134,Tryz.ntmps134
 go_wp2_with fail
 exact bodyPost_ret (v:= .string { data:= #[104,105,103,104]}) (by simp [results,Tryz.results134,go_sem]) rfl ⟨rfl,rfl⟩
theorem words_name7 (w:World):Calls Tryz.prog 134 #[.int .i64 7] w fun e w'=>e= .returned (.string { data:= #[97,110,100]})/\w=w':=by
 go_enter Tryz.func134,Tryz.ntmps134
 go_wp2_with fail
 exact bodyPost_ret (v:= .string { data:= #[97,110,100]}) (by simp [results,Tryz.results134,go_sem]) rfl ⟨rfl,rfl⟩
theorem words_name8 (w:World):Calls Tryz.prog 134 #[.int .i64 8] w fun e w'=>e= .returned (.string { data:= #[111,114]})/\w=w':=by
 go_enter Tryz.func134,Tryz.ntmps134
 go_wp2_with fail
 exact bodyPost_ret (v:= .string { data:= #[111,114]}) (by simp [results,Tryz.results134,go_sem]) rfl ⟨rfl,rfl⟩
theorem words_name9 (w:World):Calls Tryz.prog 134 #[.int .i64 9] w fun e w'=>e= .returned (.string { data:= #[120,111,114]})/\w=w':=by
 go_enter Tryz.func134,Tryz.ntmps134
 go_wp2_with fail
 exact bodyPost_ret (v:= .string { data:= #[120,111,114]}) (by simp [results,Tryz.results134,go_sem]) rfl ⟨rfl,rfl⟩
theorem words_name10 (w:World):Calls Tryz.prog 134 #[.int .i64 10] w fun e w'=>e= .returned (.string { data:= #[115,104,108]})/\w=w':=by
 go_enter Tryz.func134,Tryz.ntmps134
 go_wp2_with fail
 exact bodyPost_ret (v:= .string { data:= #[115,104,108]}) (by simp [results,Tryz.results134,go_sem]) rfl ⟨rfl,rfl⟩
theorem words_name11 (w:World):Calls Tryz.prog 134 #[.int .i64 11] w fun e w'=>e= .returned (.string { data:= #[115,104,114]})/\w=w':=by
 go_enter Tryz.func134,Tryz.ntmps134
 go_wp2_with fail
 exact bodyPost_ret (v:= .string { data:= #[115,104,114]}) (by simp [results,Tryz.results134,go_sem]) rfl ⟨rfl,rfl⟩
theorem words_name12 (w:World):Calls Tryz.prog 134 #[.int .i64 12] w fun e w'=>e= .returned (.string { data:= #[115,97,114]})/\w=w':=by
 go_enter Tryz.func134,Tryz.ntmps134
 go_wp2_with fail
 exact bodyPost_ret (v:= .string { data:= #[115,97,114]}) (by simp [results,Tryz.results134,go_sem]) rfl ⟨rfl,rfl⟩
theorem words_name13 (w:World):Calls Tryz.prog 134 #[.int .i64 13] w fun e w'=>e= .returned (.string { data:= #[108,101,115,115]})/\w=w':=by
 go_enter Tryz.func134,Tryz.ntmps134
 go_wp2_with fail
 exact bodyPost_ret (v:= .string { data:= #[108,101,115,115]}) (by simp [results,Tryz.results134,go_sem]) rfl ⟨rfl,rfl⟩
theorem words_name15 (w:World):Calls Tryz.prog 134 #[.int .i64 15] w fun e w'=>e= .returned (.string { data:= #[108,100]})/\w=w':=by
 go_enter Tryz.func134,Tryz.ntmps134
 go_wp2_with fail
 exact bodyPost_ret (v:= .string { data:= #[108,100]}) (by simp [results,Tryz.results134,go_sem]) rfl ⟨rfl,rfl⟩
theorem words_name17 (w:World):Calls Tryz.prog 134 #[.int .i64 17] w fun e w'=>e= .returned (.string { data:= #[98,114]})/\w=w':=by
 go_enter Tryz.func134,Tryz.ntmps134
 go_wp2_with fail
 exact bodyPost_ret (v:= .string { data:= #[98,114]}) (by simp [results,Tryz.results134,go_sem]) rfl ⟨rfl,rfl⟩
theorem words_name18 (w:World):Calls Tryz.prog 134 #[.int .i64 18] w fun e w'=>e= .returned (.string { data:= #[98,122]})/\w=w':=by
 go_enter Tryz.func134,Tryz.ntmps134
 go_wp2_with fail
 exact bodyPost_ret (v:= .string { data:= #[98,122]}) (by simp [results,Tryz.results134,go_sem]) rfl ⟨rfl,rfl⟩
theorem words_name19 (w:World):Calls Tryz.prog 134 #[.int .i64 19] w fun e w'=>e= .returned (.string { data:= #[98,110,122]})/\w=w':=by
 go_enter Tryz.func134,Tryz.ntmps134
 go_wp2_with fail
 exact bodyPost_ret (v:= .string { data:= #[98,110,122]}) (by simp [results,Tryz.results134,go_sem]) rfl ⟨rfl,rfl⟩
theorem words_name20 (w:World):Calls Tryz.prog 134 #[.int .i64 20] w fun e w'=>e= .returned (.string { data:= #[104,97,108,116]})/\w=w':=by
 go_enter Tryz.func134,Tryz.ntmps134
 go_wp2_with fail
 exact bodyPost_ret (v:= .string { data:= #[104,97,108,116]}) (by simp [results,Tryz.results134,go_sem]) rfl ⟨rfl,rfl⟩
theorem words_of1 (w:World):Calls Tryz.prog 91 #[.int .i64 1] w fun e w'=>e= .returned (.tuple #[wformV { data:= #[99,111,110,115,116]} 1,.bool true])/\Below w.heap.size w w':=by
 have r0:=heap_alloc_new w (.cells #[.string { data:= #[99,111,110,115,116]},.bool true,.bool false,.bool false,.bool false,.bool true] 156)
 go_enter Tryz.func91,Tryz.ntmps91
 go_wp2_with fail
 have z0:(w.alloc (.cells #[.string { data:= #[99,111,110,115,116]},.bool true,.bool false,.bool false,.bool false,.bool true] 156)).cell? ⟨w.heap.size,0,none⟩=some (.string { data:= #[99,111,110,115,116]}):=(cell_blk r0 0).trans rfl
 have z1:(w.alloc (.cells #[.string { data:= #[99,111,110,115,116]},.bool true,.bool false,.bool false,.bool false,.bool true] 156)).cell? ⟨w.heap.size,1,none⟩=some (.bool true):=(cell_blk r0 1).trans rfl
 have z2:(w.alloc (.cells #[.string { data:= #[99,111,110,115,116]},.bool true,.bool false,.bool false,.bool false,.bool true] 156)).cell? ⟨w.heap.size,2,none⟩=some (.bool false):=(cell_blk r0 2).trans rfl
 have z3:(w.alloc (.cells #[.string { data:= #[99,111,110,115,116]},.bool true,.bool false,.bool false,.bool false,.bool true] 156)).cell? ⟨w.heap.size,3,none⟩=some (.bool false):=(cell_blk r0 3).trans rfl
 have z4:(w.alloc (.cells #[.string { data:= #[99,111,110,115,116]},.bool true,.bool false,.bool false,.bool false,.bool true] 156)).cell? ⟨w.heap.size,4,none⟩=some (.bool false):=(cell_blk r0 4).trans rfl
 have z5:(w.alloc (.cells #[.string { data:= #[99,111,110,115,116]},.bool true,.bool false,.bool false,.bool false,.bool true] 156)).cell? ⟨w.heap.size,5,none⟩=some (.bool true):=(cell_blk r0 5).trans rfl
 exact bodyPost_ret (v:= .tuple #[.agg #[.string { data:= #[99,111,110,115,116]},.bool true,.bool false,.bool false,.bool false,.bool true],.bool true]) (by simp [results,Tryz.results91,go_sem,z0,z1,z2,z3,z4,z5]) rfl ⟨rfl,(Below.refl _ _).alloc (Nat.le_refl _) _⟩
theorem words_of2 (w:World):Calls Tryz.prog 91 #[.int .i64 2] w fun e w'=>e= .returned (.tuple #[wformV { data:= #[109,111,118]} 2,.bool true])/\Below w.heap.size w w':=by
 have r0:=heap_alloc_new w (.cells #[.string { data:= #[109,111,118]},.bool true,.bool true,.bool false,.bool false,.bool false] 156)
 go_enter Tryz.func91,Tryz.ntmps91
 go_wp2_with fail
 have z0:(w.alloc (.cells #[.string { data:= #[109,111,118]},.bool true,.bool true,.bool false,.bool false,.bool false] 156)).cell? ⟨w.heap.size,0,none⟩=some (.string { data:= #[109,111,118]}):=(cell_blk r0 0).trans rfl
 have z1:(w.alloc (.cells #[.string { data:= #[109,111,118]},.bool true,.bool true,.bool false,.bool false,.bool false] 156)).cell? ⟨w.heap.size,1,none⟩=some (.bool true):=(cell_blk r0 1).trans rfl
 have z2:(w.alloc (.cells #[.string { data:= #[109,111,118]},.bool true,.bool true,.bool false,.bool false,.bool false] 156)).cell? ⟨w.heap.size,2,none⟩=some (.bool true):=(cell_blk r0 2).trans rfl
 have z3:(w.alloc (.cells #[.string { data:= #[109,111,118]},.bool true,.bool true,.bool false,.bool false,.bool false] 156)).cell? ⟨w.heap.size,3,none⟩=some (.bool false):=(cell_blk r0 3).trans rfl
 have z4:(w.alloc (.cells #[.string { data:= #[109,111,118]},.bool true,.bool true,.bool false,.bool false,.bool false] 156)).cell? ⟨w.heap.size,4,none⟩=some (.bool false):=(cell_blk r0 4).trans rfl
 have z5:(w.alloc (.cells #[.string { data:= #[109,111,118]},.bool true,.bool true,.bool false,.bool false,.bool false] 156)).cell? ⟨w.heap.size,5,none⟩=some (.bool false):=(cell_blk r0 5).trans rfl
 exact bodyPost_ret (v:= .tuple #[.agg #[.string { data:= #[109,111,118]},.bool true,.bool true,.bool false,.bool false,.bool false],.bool true]) (by simp [results,Tryz.results91,go_sem,z0,z1,z2,z3,z4,z5]) rfl ⟨rfl,(Below.refl _ _).alloc (Nat.le_refl _) _⟩
theorem words_of3 (w:World):Calls Tryz.prog 91 #[.int .i64 3] w fun e w'=>e= .returned (.tuple #[wformV { data:= #[97,100,100]} 3,.bool true])/\Below w.heap.size w w':=by
 have r0:=heap_alloc_new w (.cells #[.string { data:= #[97,100,100]},.bool true,.bool true,.bool true,.bool false,.bool false] 156)
 have HN:=fun w0=>words_name3 w0
 go_enter Tryz.func91,Tryz.ntmps91
 go_wp2_with (first|(go_at_call 134;refine (HN _).mono ?_;rintro e w2 ⟨rfl,rfl⟩))
 have z0:(w.alloc (.cells #[.string { data:= #[97,100,100]},.bool true,.bool true,.bool true,.bool false,.bool false] 156)).cell? ⟨w.heap.size,0,none⟩=some (.string { data:= #[97,100,100]}):=(cell_blk r0 0).trans rfl
 have z1:(w.alloc (.cells #[.string { data:= #[97,100,100]},.bool true,.bool true,.bool true,.bool false,.bool false] 156)).cell? ⟨w.heap.size,1,none⟩=some (.bool true):=(cell_blk r0 1).trans rfl
 have z2:(w.alloc (.cells #[.string { data:= #[97,100,100]},.bool true,.bool true,.bool true,.bool false,.bool false] 156)).cell? ⟨w.heap.size,2,none⟩=some (.bool true):=(cell_blk r0 2).trans rfl
 have z3:(w.alloc (.cells #[.string { data:= #[97,100,100]},.bool true,.bool true,.bool true,.bool false,.bool false] 156)).cell? ⟨w.heap.size,3,none⟩=some (.bool true):=(cell_blk r0 3).trans rfl
 have z4:(w.alloc (.cells #[.string { data:= #[97,100,100]},.bool true,.bool true,.bool true,.bool false,.bool false] 156)).cell? ⟨w.heap.size,4,none⟩=some (.bool false):=(cell_blk r0 4).trans rfl
 have z5:(w.alloc (.cells #[.string { data:= #[97,100,100]},.bool true,.bool true,.bool true,.bool false,.bool false] 156)).cell? ⟨w.heap.size,5,none⟩=some (.bool false):=(cell_blk r0 5).trans rfl
 exact bodyPost_ret (v:= .tuple #[.agg #[.string { data:= #[97,100,100]},.bool true,.bool true,.bool true,.bool false,.bool false],.bool true]) (by simp [results,Tryz.results91,go_sem,z0,z1,z2,z3,z4,z5]) rfl ⟨rfl,(Below.refl _ _).alloc (Nat.le_refl _) _⟩
theorem words_of4 (w:World):Calls Tryz.prog 91 #[.int .i64 4] w fun e w'=>e= .returned (.tuple #[wformV { data:= #[115,117,98]} 4,.bool true])/\Below w.heap.size w w':=by
 have r0:=heap_alloc_new w (.cells #[.string { data:= #[115,117,98]},.bool true,.bool true,.bool true,.bool false,.bool false] 156)
 have HN:=fun w0=>words_name4 w0
 go_enter Tryz.func91,Tryz.ntmps91
 go_wp2_with (first|(go_at_call 134;refine (HN _).mono ?_;rintro e w2 ⟨rfl,rfl⟩))
 have z0:(w.alloc (.cells #[.string { data:= #[115,117,98]},.bool true,.bool true,.bool true,.bool false,.bool false] 156)).cell? ⟨w.heap.size,0,none⟩=some (.string { data:= #[115,117,98]}):=(cell_blk r0 0).trans rfl
 have z1:(w.alloc (.cells #[.string { data:= #[115,117,98]},.bool true,.bool true,.bool true,.bool false,.bool false] 156)).cell? ⟨w.heap.size,1,none⟩=some (.bool true):=(cell_blk r0 1).trans rfl
 have z2:(w.alloc (.cells #[.string { data:= #[115,117,98]},.bool true,.bool true,.bool true,.bool false,.bool false] 156)).cell? ⟨w.heap.size,2,none⟩=some (.bool true):=(cell_blk r0 2).trans rfl
 have z3:(w.alloc (.cells #[.string { data:= #[115,117,98]},.bool true,.bool true,.bool true,.bool false,.bool false] 156)).cell? ⟨w.heap.size,3,none⟩=some (.bool true):=(cell_blk r0 3).trans rfl
 have z4:(w.alloc (.cells #[.string { data:= #[115,117,98]},.bool true,.bool true,.bool true,.bool false,.bool false] 156)).cell? ⟨w.heap.size,4,none⟩=some (.bool false):=(cell_blk r0 4).trans rfl
 have z5:(w.alloc (.cells #[.string { data:= #[115,117,98]},.bool true,.bool true,.bool true,.bool false,.bool false] 156)).cell? ⟨w.heap.size,5,none⟩=some (.bool false):=(cell_blk r0 5).trans rfl
 exact bodyPost_ret (v:= .tuple #[.agg #[.string { data:= #[115,117,98]},.bool true,.bool true,.bool true,.bool false,.bool false],.bool true]) (by simp [results,Tryz.results91,go_sem,z0,z1,z2,z3,z4,z5]) rfl ⟨rfl,(Below.refl _ _).alloc (Nat.le_refl _) _⟩
theorem words_of5 (w:World):Calls Tryz.prog 91 #[.int .i64 5] w fun e w'=>e= .returned (.tuple #[wformV { data:= #[109,117,108]} 5,.bool true])/\Below w.heap.size w w':=by
 have r0:=heap_alloc_new w (.cells #[.string { data:= #[109,117,108]},.bool true,.bool true,.bool true,.bool false,.bool false] 156)
 have HN:=fun w0=>words_name5 w0
 go_enter Tryz.func91,Tryz.ntmps91
 go_wp2_with (first|(go_at_call 134;refine (HN _).mono ?_;rintro e w2 ⟨rfl,rfl⟩))
 have z0:(w.alloc (.cells #[.string { data:= #[109,117,108]},.bool true,.bool true,.bool true,.bool false,.bool false] 156)).cell? ⟨w.heap.size,0,none⟩=some (.string { data:= #[109,117,108]}):=(cell_blk r0 0).trans rfl
 have z1:(w.alloc (.cells #[.string { data:= #[109,117,108]},.bool true,.bool true,.bool true,.bool false,.bool false] 156)).cell? ⟨w.heap.size,1,none⟩=some (.bool true):=(cell_blk r0 1).trans rfl
 have z2:(w.alloc (.cells #[.string { data:= #[109,117,108]},.bool true,.bool true,.bool true,.bool false,.bool false] 156)).cell? ⟨w.heap.size,2,none⟩=some (.bool true):=(cell_blk r0 2).trans rfl
 have z3:(w.alloc (.cells #[.string { data:= #[109,117,108]},.bool true,.bool true,.bool true,.bool false,.bool false] 156)).cell? ⟨w.heap.size,3,none⟩=some (.bool true):=(cell_blk r0 3).trans rfl
 have z4:(w.alloc (.cells #[.string { data:= #[109,117,108]},.bool true,.bool true,.bool true,.bool false,.bool false] 156)).cell? ⟨w.heap.size,4,none⟩=some (.bool false):=(cell_blk r0 4).trans rfl
 have z5:(w.alloc (.cells #[.string { data:= #[109,117,108]},.bool true,.bool true,.bool true,.bool false,.bool false] 156)).cell? ⟨w.heap.size,5,none⟩=some (.bool false):=(cell_blk r0 5).trans rfl
 exact bodyPost_ret (v:= .tuple #[.agg #[.string { data:= #[109,117,108]},.bool true,.bool true,.bool true,.bool false,.bool false],.bool true]) (by simp [results,Tryz.results91,go_sem,z0,z1,z2,z3,z4,z5]) rfl ⟨rfl,(Below.refl _ _).alloc (Nat.le_refl _) _⟩
theorem words_of6 (w:World):Calls Tryz.prog 91 #[.int .i64 6] w fun e w'=>e= .returned (.tuple #[wformV { data:= #[104,105,103,104]} 6,.bool true])/\Below w.heap.size w w':=by
 have r0:=heap_alloc_new w (.cells #[.string { data:= #[104,105,103,104]},.bool true,.bool true,.bool true,.bool false,.bool false] 156)
 have HN:=fun w0=>words_name6 w0
 go_enter Tryz.func91,Tryz.ntmps91
 go_wp2_with (first|(go_at_call 134;refine (HN _).mono ?_;rintro e w2 ⟨rfl,rfl⟩))
 have z0:(w.alloc (.cells #[.string { data:= #[104,105,103,104]},.bool true,.bool true,.bool true,.bool false,.bool false] 156)).cell? ⟨w.heap.size,0,none⟩=some (.string { data:= #[104,105,103,104]}):=(cell_blk r0 0).trans rfl
 have z1:(w.alloc (.cells #[.string { data:= #[104,105,103,104]},.bool true,.bool true,.bool true,.bool false,.bool false] 156)).cell? ⟨w.heap.size,1,none⟩=some (.bool true):=(cell_blk r0 1).trans rfl
 have z2:(w.alloc (.cells #[.string { data:= #[104,105,103,104]},.bool true,.bool true,.bool true,.bool false,.bool false] 156)).cell? ⟨w.heap.size,2,none⟩=some (.bool true):=(cell_blk r0 2).trans rfl
 have z3:(w.alloc (.cells #[.string { data:= #[104,105,103,104]},.bool true,.bool true,.bool true,.bool false,.bool false] 156)).cell? ⟨w.heap.size,3,none⟩=some (.bool true):=(cell_blk r0 3).trans rfl
 have z4:(w.alloc (.cells #[.string { data:= #[104,105,103,104]},.bool true,.bool true,.bool true,.bool false,.bool false] 156)).cell? ⟨w.heap.size,4,none⟩=some (.bool false):=(cell_blk r0 4).trans rfl
 have z5:(w.alloc (.cells #[.string { data:= #[104,105,103,104]},.bool true,.bool true,.bool true,.bool false,.bool false] 156)).cell? ⟨w.heap.size,5,none⟩=some (.bool false):=(cell_blk r0 5).trans rfl
 exact bodyPost_ret (v:= .tuple #[.agg #[.string { data:= #[104,105,103,104]},.bool true,.bool true,.bool true,.bool false,.bool false],.bool true]) (by simp [results,Tryz.results91,go_sem,z0,z1,z2,z3,z4,z5]) rfl ⟨rfl,(Below.refl _ _).alloc (Nat.le_refl _) _⟩
theorem words_of7 (w:World):Calls Tryz.prog 91 #[.int .i64 7] w fun e w'=>e= .returned (.tuple #[wformV { data:= #[97,110,100]} 7,.bool true])/\Below w.heap.size w w':=by
 have r0:=heap_alloc_new w (.cells #[.string { data:= #[97,110,100]},.bool true,.bool true,.bool true,.bool false,.bool false] 156)
 have HN:=fun w0=>words_name7 w0
 go_enter Tryz.func91,Tryz.ntmps91
 go_wp2_with (first|(go_at_call 134;refine (HN _).mono ?_;rintro e w2 ⟨rfl,rfl⟩))
 have z0:(w.alloc (.cells #[.string { data:= #[97,110,100]},.bool true,.bool true,.bool true,.bool false,.bool false] 156)).cell? ⟨w.heap.size,0,none⟩=some (.string { data:= #[97,110,100]}):=(cell_blk r0 0).trans rfl
 have z1:(w.alloc (.cells #[.string { data:= #[97,110,100]},.bool true,.bool true,.bool true,.bool false,.bool false] 156)).cell? ⟨w.heap.size,1,none⟩=some (.bool true):=(cell_blk r0 1).trans rfl
 have z2:(w.alloc (.cells #[.string { data:= #[97,110,100]},.bool true,.bool true,.bool true,.bool false,.bool false] 156)).cell? ⟨w.heap.size,2,none⟩=some (.bool true):=(cell_blk r0 2).trans rfl
 have z3:(w.alloc (.cells #[.string { data:= #[97,110,100]},.bool true,.bool true,.bool true,.bool false,.bool false] 156)).cell? ⟨w.heap.size,3,none⟩=some (.bool true):=(cell_blk r0 3).trans rfl
 have z4:(w.alloc (.cells #[.string { data:= #[97,110,100]},.bool true,.bool true,.bool true,.bool false,.bool false] 156)).cell? ⟨w.heap.size,4,none⟩=some (.bool false):=(cell_blk r0 4).trans rfl
 have z5:(w.alloc (.cells #[.string { data:= #[97,110,100]},.bool true,.bool true,.bool true,.bool false,.bool false] 156)).cell? ⟨w.heap.size,5,none⟩=some (.bool false):=(cell_blk r0 5).trans rfl
 exact bodyPost_ret (v:= .tuple #[.agg #[.string { data:= #[97,110,100]},.bool true,.bool true,.bool true,.bool false,.bool false],.bool true]) (by simp [results,Tryz.results91,go_sem,z0,z1,z2,z3,z4,z5]) rfl ⟨rfl,(Below.refl _ _).alloc (Nat.le_refl _) _⟩
theorem words_of8 (w:World):Calls Tryz.prog 91 #[.int .i64 8] w fun e w'=>e= .returned (.tuple #[wformV { data:= #[111,114]} 8,.bool true])/\Below w.heap.size w w':=by
 have r0:=heap_alloc_new w (.cells #[.string { data:= #[111,114]},.bool true,.bool true,.bool true,.bool false,.bool false] 156)
 have HN:=fun w0=>words_name8 w0
 go_enter Tryz.func91,Tryz.ntmps91
 go_wp2_with (first|(go_at_call 134;refine (HN _).mono ?_;rintro e w2 ⟨rfl,rfl⟩))
 have z0:(w.alloc (.cells #[.string { data:= #[111,114]},.bool true,.bool true,.bool true,.bool false,.bool false] 156)).cell? ⟨w.heap.size,0,none⟩=some (.string { data:= #[111,114]}):=(cell_blk r0 0).trans rfl
 have z1:(w.alloc (.cells #[.string { data:= #[111,114]},.bool true,.bool true,.bool true,.bool false,.bool false] 156)).cell? ⟨w.heap.size,1,none⟩=some (.bool true):=(cell_blk r0 1).trans rfl
 have z2:(w.alloc (.cells #[.string { data:= #[111,114]},.bool true,.bool true,.bool true,.bool false,.bool false] 156)).cell? ⟨w.heap.size,2,none⟩=some (.bool true):=(cell_blk r0 2).trans rfl
 have z3:(w.alloc (.cells #[.string { data:= #[111,114]},.bool true,.bool true,.bool true,.bool false,.bool false] 156)).cell? ⟨w.heap.size,3,none⟩=some (.bool true):=(cell_blk r0 3).trans rfl
 have z4:(w.alloc (.cells #[.string { data:= #[111,114]},.bool true,.bool true,.bool true,.bool false,.bool false] 156)).cell? ⟨w.heap.size,4,none⟩=some (.bool false):=(cell_blk r0 4).trans rfl
 have z5:(w.alloc (.cells #[.string { data:= #[111,114]},.bool true,.bool true,.bool true,.bool false,.bool false] 156)).cell? ⟨w.heap.size,5,none⟩=some (.bool false):=(cell_blk r0 5).trans rfl
 exact bodyPost_ret (v:= .tuple #[.agg #[.string { data:= #[111,114]},.bool true,.bool true,.bool true,.bool false,.bool false],.bool true]) (by simp [results,Tryz.results91,go_sem,z0,z1,z2,z3,z4,z5]) rfl ⟨rfl,(Below.refl _ _).alloc (Nat.le_refl _) _⟩
theorem words_of9 (w:World):Calls Tryz.prog 91 #[.int .i64 9] w fun e w'=>e= .returned (.tuple #[wformV { data:= #[120,111,114]} 9,.bool true])/\Below w.heap.size w w':=by
 have r0:=heap_alloc_new w (.cells #[.string { data:= #[120,111,114]},.bool true,.bool true,.bool true,.bool false,.bool false] 156)
 have HN:=fun w0=>words_name9 w0
 go_enter Tryz.func91,Tryz.ntmps91
 go_wp2_with (first|(go_at_call 134;refine (HN _).mono ?_;rintro e w2 ⟨rfl,rfl⟩))
 have z0:(w.alloc (.cells #[.string { data:= #[120,111,114]},.bool true,.bool true,.bool true,.bool false,.bool false] 156)).cell? ⟨w.heap.size,0,none⟩=some (.string { data:= #[120,111,114]}):=(cell_blk r0 0).trans rfl
 have z1:(w.alloc (.cells #[.string { data:= #[120,111,114]},.bool true,.bool true,.bool true,.bool false,.bool false] 156)).cell? ⟨w.heap.size,1,none⟩=some (.bool true):=(cell_blk r0 1).trans rfl
 have z2:(w.alloc (.cells #[.string { data:= #[120,111,114]},.bool true,.bool true,.bool true,.bool false,.bool false] 156)).cell? ⟨w.heap.size,2,none⟩=some (.bool true):=(cell_blk r0 2).trans rfl
 have z3:(w.alloc (.cells #[.string { data:= #[120,111,114]},.bool true,.bool true,.bool true,.bool false,.bool false] 156)).cell? ⟨w.heap.size,3,none⟩=some (.bool true):=(cell_blk r0 3).trans rfl
 have z4:(w.alloc (.cells #[.string { data:= #[120,111,114]},.bool true,.bool true,.bool true,.bool false,.bool false] 156)).cell? ⟨w.heap.size,4,none⟩=some (.bool false):=(cell_blk r0 4).trans rfl
 have z5:(w.alloc (.cells #[.string { data:= #[120,111,114]},.bool true,.bool true,.bool true,.bool false,.bool false] 156)).cell? ⟨w.heap.size,5,none⟩=some (.bool false):=(cell_blk r0 5).trans rfl
 exact bodyPost_ret (v:= .tuple #[.agg #[.string { data:= #[120,111,114]},.bool true,.bool true,.bool true,.bool false,.bool false],.bool true]) (by simp [results,Tryz.results91,go_sem,z0,z1,z2,z3,z4,z5]) rfl ⟨rfl,(Below.refl _ _).alloc (Nat.le_refl _) _⟩
theorem words_of10 (w:World):Calls Tryz.prog 91 #[.int .i64 10] w fun e w'=>e= .returned (.tuple #[wformV { data:= #[115,104,108]} 10,.bool true])/\Below w.heap.size w w':=by
 have r0:=heap_alloc_new w (.cells #[.string { data:= #[115,104,108]},.bool true,.bool true,.bool false,.bool false,.bool true] 156)
 have HN:=fun w0=>words_name10 w0
 go_enter Tryz.func91,Tryz.ntmps91
 go_wp2_with (first|(go_at_call 134;refine (HN _).mono ?_;rintro e w2 ⟨rfl,rfl⟩))
 have z0:(w.alloc (.cells #[.string { data:= #[115,104,108]},.bool true,.bool true,.bool false,.bool false,.bool true] 156)).cell? ⟨w.heap.size,0,none⟩=some (.string { data:= #[115,104,108]}):=(cell_blk r0 0).trans rfl
 have z1:(w.alloc (.cells #[.string { data:= #[115,104,108]},.bool true,.bool true,.bool false,.bool false,.bool true] 156)).cell? ⟨w.heap.size,1,none⟩=some (.bool true):=(cell_blk r0 1).trans rfl
 have z2:(w.alloc (.cells #[.string { data:= #[115,104,108]},.bool true,.bool true,.bool false,.bool false,.bool true] 156)).cell? ⟨w.heap.size,2,none⟩=some (.bool true):=(cell_blk r0 2).trans rfl
 have z3:(w.alloc (.cells #[.string { data:= #[115,104,108]},.bool true,.bool true,.bool false,.bool false,.bool true] 156)).cell? ⟨w.heap.size,3,none⟩=some (.bool false):=(cell_blk r0 3).trans rfl
 have z4:(w.alloc (.cells #[.string { data:= #[115,104,108]},.bool true,.bool true,.bool false,.bool false,.bool true] 156)).cell? ⟨w.heap.size,4,none⟩=some (.bool false):=(cell_blk r0 4).trans rfl
 have z5:(w.alloc (.cells #[.string { data:= #[115,104,108]},.bool true,.bool true,.bool false,.bool false,.bool true] 156)).cell? ⟨w.heap.size,5,none⟩=some (.bool true):=(cell_blk r0 5).trans rfl
 exact bodyPost_ret (v:= .tuple #[.agg #[.string { data:= #[115,104,108]},.bool true,.bool true,.bool false,.bool false,.bool true],.bool true]) (by simp [results,Tryz.results91,go_sem,z0,z1,z2,z3,z4,z5]) rfl ⟨rfl,(Below.refl _ _).alloc (Nat.le_refl _) _⟩
theorem words_of11 (w:World):Calls Tryz.prog 91 #[.int .i64 11] w fun e w'=>e= .returned (.tuple #[wformV { data:= #[115,104,114]} 11,.bool true])/\Below w.heap.size w w':=by
 have r0:=heap_alloc_new w (.cells #[.string { data:= #[115,104,114]},.bool true,.bool true,.bool false,.bool false,.bool true] 156)
 have HN:=fun w0=>words_name11 w0
 go_enter Tryz.func91,Tryz.ntmps91
 go_wp2_with (first|(go_at_call 134;refine (HN _).mono ?_;rintro e w2 ⟨rfl,rfl⟩))
 have z0:(w.alloc (.cells #[.string { data:= #[115,104,114]},.bool true,.bool true,.bool false,.bool false,.bool true] 156)).cell? ⟨w.heap.size,0,none⟩=some (.string { data:= #[115,104,114]}):=(cell_blk r0 0).trans rfl
 have z1:(w.alloc (.cells #[.string { data:= #[115,104,114]},.bool true,.bool true,.bool false,.bool false,.bool true] 156)).cell? ⟨w.heap.size,1,none⟩=some (.bool true):=(cell_blk r0 1).trans rfl
 have z2:(w.alloc (.cells #[.string { data:= #[115,104,114]},.bool true,.bool true,.bool false,.bool false,.bool true] 156)).cell? ⟨w.heap.size,2,none⟩=some (.bool true):=(cell_blk r0 2).trans rfl
 have z3:(w.alloc (.cells #[.string { data:= #[115,104,114]},.bool true,.bool true,.bool false,.bool false,.bool true] 156)).cell? ⟨w.heap.size,3,none⟩=some (.bool false):=(cell_blk r0 3).trans rfl
 have z4:(w.alloc (.cells #[.string { data:= #[115,104,114]},.bool true,.bool true,.bool false,.bool false,.bool true] 156)).cell? ⟨w.heap.size,4,none⟩=some (.bool false):=(cell_blk r0 4).trans rfl
 have z5:(w.alloc (.cells #[.string { data:= #[115,104,114]},.bool true,.bool true,.bool false,.bool false,.bool true] 156)).cell? ⟨w.heap.size,5,none⟩=some (.bool true):=(cell_blk r0 5).trans rfl
 exact bodyPost_ret (v:= .tuple #[.agg #[.string { data:= #[115,104,114]},.bool true,.bool true,.bool false,.bool false,.bool true],.bool true]) (by simp [results,Tryz.results91,go_sem,z0,z1,z2,z3,z4,z5]) rfl ⟨rfl,(Below.refl _ _).alloc (Nat.le_refl _) _⟩
theorem words_of12 (w:World):Calls Tryz.prog 91 #[.int .i64 12] w fun e w'=>e= .returned (.tuple #[wformV { data:= #[115,97,114]} 12,.bool true])/\Below w.heap.size w w':=by
 have r0:=heap_alloc_new w (.cells #[.string { data:= #[115,97,114]},.bool true,.bool true,.bool false,.bool false,.bool true] 156)
 have HN:=fun w0=>words_name12 w0
 go_enter Tryz.func91,Tryz.ntmps91
 go_wp2_with (first|(go_at_call 134;refine (HN _).mono ?_;rintro e w2 ⟨rfl,rfl⟩))
 have z0:(w.alloc (.cells #[.string { data:= #[115,97,114]},.bool true,.bool true,.bool false,.bool false,.bool true] 156)).cell? ⟨w.heap.size,0,none⟩=some (.string { data:= #[115,97,114]}):=(cell_blk r0 0).trans rfl
 have z1:(w.alloc (.cells #[.string { data:= #[115,97,114]},.bool true,.bool true,.bool false,.bool false,.bool true] 156)).cell? ⟨w.heap.size,1,none⟩=some (.bool true):=(cell_blk r0 1).trans rfl
 have z2:(w.alloc (.cells #[.string { data:= #[115,97,114]},.bool true,.bool true,.bool false,.bool false,.bool true] 156)).cell? ⟨w.heap.size,2,none⟩=some (.bool true):=(cell_blk r0 2).trans rfl
 have z3:(w.alloc (.cells #[.string { data:= #[115,97,114]},.bool true,.bool true,.bool false,.bool false,.bool true] 156)).cell? ⟨w.heap.size,3,none⟩=some (.bool false):=(cell_blk r0 3).trans rfl
 have z4:(w.alloc (.cells #[.string { data:= #[115,97,114]},.bool true,.bool true,.bool false,.bool false,.bool true] 156)).cell? ⟨w.heap.size,4,none⟩=some (.bool false):=(cell_blk r0 4).trans rfl
 have z5:(w.alloc (.cells #[.string { data:= #[115,97,114]},.bool true,.bool true,.bool false,.bool false,.bool true] 156)).cell? ⟨w.heap.size,5,none⟩=some (.bool true):=(cell_blk r0 5).trans rfl
 exact bodyPost_ret (v:= .tuple #[.agg #[.string { data:= #[115,97,114]},.bool true,.bool true,.bool false,.bool false,.bool true],.bool true]) (by simp [results,Tryz.results91,go_sem,z0,z1,z2,z3,z4,z5]) rfl ⟨rfl,(Below.refl _ _).alloc (Nat.le_refl _) _⟩
theorem words_of13 (w:World):Calls Tryz.prog 91 #[.int .i64 13] w fun e w'=>e= .returned (.tuple #[wformV { data:= #[108,101,115,115]} 13,.bool true])/\Below w.heap.size w w':=by
 have r0:=heap_alloc_new w (.cells #[.string { data:= #[108,101,115,115]},.bool true,.bool true,.bool true,.bool false,.bool false] 156)
 have HN:=fun w0=>words_name13 w0
 go_enter Tryz.func91,Tryz.ntmps91
 go_wp2_with (first|(go_at_call 134;refine (HN _).mono ?_;rintro e w2 ⟨rfl,rfl⟩))
 have z0:(w.alloc (.cells #[.string { data:= #[108,101,115,115]},.bool true,.bool true,.bool true,.bool false,.bool false] 156)).cell? ⟨w.heap.size,0,none⟩=some (.string { data:= #[108,101,115,115]}):=(cell_blk r0 0).trans rfl
 have z1:(w.alloc (.cells #[.string { data:= #[108,101,115,115]},.bool true,.bool true,.bool true,.bool false,.bool false] 156)).cell? ⟨w.heap.size,1,none⟩=some (.bool true):=(cell_blk r0 1).trans rfl
 have z2:(w.alloc (.cells #[.string { data:= #[108,101,115,115]},.bool true,.bool true,.bool true,.bool false,.bool false] 156)).cell? ⟨w.heap.size,2,none⟩=some (.bool true):=(cell_blk r0 2).trans rfl
 have z3:(w.alloc (.cells #[.string { data:= #[108,101,115,115]},.bool true,.bool true,.bool true,.bool false,.bool false] 156)).cell? ⟨w.heap.size,3,none⟩=some (.bool true):=(cell_blk r0 3).trans rfl
 have z4:(w.alloc (.cells #[.string { data:= #[108,101,115,115]},.bool true,.bool true,.bool true,.bool false,.bool false] 156)).cell? ⟨w.heap.size,4,none⟩=some (.bool false):=(cell_blk r0 4).trans rfl
 have z5:(w.alloc (.cells #[.string { data:= #[108,101,115,115]},.bool true,.bool true,.bool true,.bool false,.bool false] 156)).cell? ⟨w.heap.size,5,none⟩=some (.bool false):=(cell_blk r0 5).trans rfl
 exact bodyPost_ret (v:= .tuple #[.agg #[.string { data:= #[108,101,115,115]},.bool true,.bool true,.bool true,.bool false,.bool false],.bool true]) (by simp [results,Tryz.results91,go_sem,z0,z1,z2,z3,z4,z5]) rfl ⟨rfl,(Below.refl _ _).alloc (Nat.le_refl _) _⟩
theorem words_of14 (w:World):Calls Tryz.prog 91 #[.int .i64 14] w fun e w'=>e= .returned (.tuple #[wformV { data:= #[115,101,108]} 14,.bool true])/\Below w.heap.size w w':=by
 have r0:=heap_alloc_new w (.cells #[.string { data:= #[115,101,108]},.bool true,.bool true,.bool true,.bool true,.bool false] 156)
 go_enter Tryz.func91,Tryz.ntmps91
 go_wp2_with fail
 have z0:(w.alloc (.cells #[.string { data:= #[115,101,108]},.bool true,.bool true,.bool true,.bool true,.bool false] 156)).cell? ⟨w.heap.size,0,none⟩=some (.string { data:= #[115,101,108]}):=(cell_blk r0 0).trans rfl
 have z1:(w.alloc (.cells #[.string { data:= #[115,101,108]},.bool true,.bool true,.bool true,.bool true,.bool false] 156)).cell? ⟨w.heap.size,1,none⟩=some (.bool true):=(cell_blk r0 1).trans rfl
 have z2:(w.alloc (.cells #[.string { data:= #[115,101,108]},.bool true,.bool true,.bool true,.bool true,.bool false] 156)).cell? ⟨w.heap.size,2,none⟩=some (.bool true):=(cell_blk r0 2).trans rfl
 have z3:(w.alloc (.cells #[.string { data:= #[115,101,108]},.bool true,.bool true,.bool true,.bool true,.bool false] 156)).cell? ⟨w.heap.size,3,none⟩=some (.bool true):=(cell_blk r0 3).trans rfl
 have z4:(w.alloc (.cells #[.string { data:= #[115,101,108]},.bool true,.bool true,.bool true,.bool true,.bool false] 156)).cell? ⟨w.heap.size,4,none⟩=some (.bool true):=(cell_blk r0 4).trans rfl
 have z5:(w.alloc (.cells #[.string { data:= #[115,101,108]},.bool true,.bool true,.bool true,.bool true,.bool false] 156)).cell? ⟨w.heap.size,5,none⟩=some (.bool false):=(cell_blk r0 5).trans rfl
 exact bodyPost_ret (v:= .tuple #[.agg #[.string { data:= #[115,101,108]},.bool true,.bool true,.bool true,.bool true,.bool false],.bool true]) (by simp [results,Tryz.results91,go_sem,z0,z1,z2,z3,z4,z5]) rfl ⟨rfl,(Below.refl _ _).alloc (Nat.le_refl _) _⟩
theorem words_of15 (w:World):Calls Tryz.prog 91 #[.int .i64 15] w fun e w'=>e= .returned (.tuple #[wformV { data:= #[108,100]} 15,.bool true])/\Below w.heap.size w w':=by
 have r0:=heap_alloc_new w (.cells #[.string { data:= #[108,100]},.bool true,.bool true,.bool false,.bool false,.bool true] 156)
 have HN:=fun w0=>words_name15 w0
 go_enter Tryz.func91,Tryz.ntmps91
 go_wp2_with (first|(go_at_call 134;refine (HN _).mono ?_;rintro e w2 ⟨rfl,rfl⟩))
 have z0:(w.alloc (.cells #[.string { data:= #[108,100]},.bool true,.bool true,.bool false,.bool false,.bool true] 156)).cell? ⟨w.heap.size,0,none⟩=some (.string { data:= #[108,100]}):=(cell_blk r0 0).trans rfl
 have z1:(w.alloc (.cells #[.string { data:= #[108,100]},.bool true,.bool true,.bool false,.bool false,.bool true] 156)).cell? ⟨w.heap.size,1,none⟩=some (.bool true):=(cell_blk r0 1).trans rfl
 have z2:(w.alloc (.cells #[.string { data:= #[108,100]},.bool true,.bool true,.bool false,.bool false,.bool true] 156)).cell? ⟨w.heap.size,2,none⟩=some (.bool true):=(cell_blk r0 2).trans rfl
 have z3:(w.alloc (.cells #[.string { data:= #[108,100]},.bool true,.bool true,.bool false,.bool false,.bool true] 156)).cell? ⟨w.heap.size,3,none⟩=some (.bool false):=(cell_blk r0 3).trans rfl
 have z4:(w.alloc (.cells #[.string { data:= #[108,100]},.bool true,.bool true,.bool false,.bool false,.bool true] 156)).cell? ⟨w.heap.size,4,none⟩=some (.bool false):=(cell_blk r0 4).trans rfl
 have z5:(w.alloc (.cells #[.string { data:= #[108,100]},.bool true,.bool true,.bool false,.bool false,.bool true] 156)).cell? ⟨w.heap.size,5,none⟩=some (.bool true):=(cell_blk r0 5).trans rfl
 exact bodyPost_ret (v:= .tuple #[.agg #[.string { data:= #[108,100]},.bool true,.bool true,.bool false,.bool false,.bool true],.bool true]) (by simp [results,Tryz.results91,go_sem,z0,z1,z2,z3,z4,z5]) rfl ⟨rfl,(Below.refl _ _).alloc (Nat.le_refl _) _⟩
theorem words_of16 (w:World):Calls Tryz.prog 91 #[.int .i64 16] w fun e w'=>e= .returned (.tuple #[wformV { data:= #[115,116]} 16,.bool true])/\Below w.heap.size w w':=by
 have r0:=heap_alloc_new w (.cells #[.string { data:= #[115,116]},.bool false,.bool true,.bool true,.bool false,.bool true] 156)
 go_enter Tryz.func91,Tryz.ntmps91
 go_wp2_with fail
 have z0:(w.alloc (.cells #[.string { data:= #[115,116]},.bool false,.bool true,.bool true,.bool false,.bool true] 156)).cell? ⟨w.heap.size,0,none⟩=some (.string { data:= #[115,116]}):=(cell_blk r0 0).trans rfl
 have z1:(w.alloc (.cells #[.string { data:= #[115,116]},.bool false,.bool true,.bool true,.bool false,.bool true] 156)).cell? ⟨w.heap.size,1,none⟩=some (.bool false):=(cell_blk r0 1).trans rfl
 have z2:(w.alloc (.cells #[.string { data:= #[115,116]},.bool false,.bool true,.bool true,.bool false,.bool true] 156)).cell? ⟨w.heap.size,2,none⟩=some (.bool true):=(cell_blk r0 2).trans rfl
 have z3:(w.alloc (.cells #[.string { data:= #[115,116]},.bool false,.bool true,.bool true,.bool false,.bool true] 156)).cell? ⟨w.heap.size,3,none⟩=some (.bool true):=(cell_blk r0 3).trans rfl
 have z4:(w.alloc (.cells #[.string { data:= #[115,116]},.bool false,.bool true,.bool true,.bool false,.bool true] 156)).cell? ⟨w.heap.size,4,none⟩=some (.bool false):=(cell_blk r0 4).trans rfl
 have z5:(w.alloc (.cells #[.string { data:= #[115,116]},.bool false,.bool true,.bool true,.bool false,.bool true] 156)).cell? ⟨w.heap.size,5,none⟩=some (.bool true):=(cell_blk r0 5).trans rfl
 exact bodyPost_ret (v:= .tuple #[.agg #[.string { data:= #[115,116]},.bool false,.bool true,.bool true,.bool false,.bool true],.bool true]) (by simp [results,Tryz.results91,go_sem,z0,z1,z2,z3,z4,z5]) rfl ⟨rfl,(Below.refl _ _).alloc (Nat.le_refl _) _⟩
theorem words_of17 (w:World):Calls Tryz.prog 91 #[.int .i64 17] w fun e w'=>e= .returned (.tuple #[wformV { data:= #[98,114]} 17,.bool true])/\Below w.heap.size w w':=by
 have r0:=heap_alloc_new w (.cells #[.string { data:= #[98,114]},.bool false,.bool false,.bool false,.bool false,.bool true] 156)
 have HN:=fun w0=>words_name17 w0
 go_enter Tryz.func91,Tryz.ntmps91
 go_wp2_with (first|(go_at_call 134;refine (HN _).mono ?_;rintro e w2 ⟨rfl,rfl⟩))
 have z0:(w.alloc (.cells #[.string { data:= #[98,114]},.bool false,.bool false,.bool false,.bool false,.bool true] 156)).cell? ⟨w.heap.size,0,none⟩=some (.string { data:= #[98,114]}):=(cell_blk r0 0).trans rfl
 have z1:(w.alloc (.cells #[.string { data:= #[98,114]},.bool false,.bool false,.bool false,.bool false,.bool true] 156)).cell? ⟨w.heap.size,1,none⟩=some (.bool false):=(cell_blk r0 1).trans rfl
 have z2:(w.alloc (.cells #[.string { data:= #[98,114]},.bool false,.bool false,.bool false,.bool false,.bool true] 156)).cell? ⟨w.heap.size,2,none⟩=some (.bool false):=(cell_blk r0 2).trans rfl
 have z3:(w.alloc (.cells #[.string { data:= #[98,114]},.bool false,.bool false,.bool false,.bool false,.bool true] 156)).cell? ⟨w.heap.size,3,none⟩=some (.bool false):=(cell_blk r0 3).trans rfl
 have z4:(w.alloc (.cells #[.string { data:= #[98,114]},.bool false,.bool false,.bool false,.bool false,.bool true] 156)).cell? ⟨w.heap.size,4,none⟩=some (.bool false):=(cell_blk r0 4).trans rfl
 have z5:(w.alloc (.cells #[.string { data:= #[98,114]},.bool false,.bool false,.bool false,.bool false,.bool true] 156)).cell? ⟨w.heap.size,5,none⟩=some (.bool true):=(cell_blk r0 5).trans rfl
 exact bodyPost_ret (v:= .tuple #[.agg #[.string { data:= #[98,114]},.bool false,.bool false,.bool false,.bool false,.bool true],.bool true]) (by simp [results,Tryz.results91,go_sem,z0,z1,z2,z3,z4,z5]) rfl ⟨rfl,(Below.refl _ _).alloc (Nat.le_refl _) _⟩
theorem words_of18 (w:World):Calls Tryz.prog 91 #[.int .i64 18] w fun e w'=>e= .returned (.tuple #[wformV { data:= #[98,122]} 18,.bool true])/\Below w.heap.size w w':=by
 have r0:=heap_alloc_new w (.cells #[.string { data:= #[98,122]},.bool false,.bool true,.bool false,.bool false,.bool true] 156)
 have HN:=fun w0=>words_name18 w0
 go_enter Tryz.func91,Tryz.ntmps91
 go_wp2_with (first|(go_at_call 134;refine (HN _).mono ?_;rintro e w2 ⟨rfl,rfl⟩))
 have z0:(w.alloc (.cells #[.string { data:= #[98,122]},.bool false,.bool true,.bool false,.bool false,.bool true] 156)).cell? ⟨w.heap.size,0,none⟩=some (.string { data:= #[98,122]}):=(cell_blk r0 0).trans rfl
 have z1:(w.alloc (.cells #[.string { data:= #[98,122]},.bool false,.bool true,.bool false,.bool false,.bool true] 156)).cell? ⟨w.heap.size,1,none⟩=some (.bool false):=(cell_blk r0 1).trans rfl
 have z2:(w.alloc (.cells #[.string { data:= #[98,122]},.bool false,.bool true,.bool false,.bool false,.bool true] 156)).cell? ⟨w.heap.size,2,none⟩=some (.bool true):=(cell_blk r0 2).trans rfl
 have z3:(w.alloc (.cells #[.string { data:= #[98,122]},.bool false,.bool true,.bool false,.bool false,.bool true] 156)).cell? ⟨w.heap.size,3,none⟩=some (.bool false):=(cell_blk r0 3).trans rfl
 have z4:(w.alloc (.cells #[.string { data:= #[98,122]},.bool false,.bool true,.bool false,.bool false,.bool true] 156)).cell? ⟨w.heap.size,4,none⟩=some (.bool false):=(cell_blk r0 4).trans rfl
 have z5:(w.alloc (.cells #[.string { data:= #[98,122]},.bool false,.bool true,.bool false,.bool false,.bool true] 156)).cell? ⟨w.heap.size,5,none⟩=some (.bool true):=(cell_blk r0 5).trans rfl
 exact bodyPost_ret (v:= .tuple #[.agg #[.string { data:= #[98,122]},.bool false,.bool true,.bool false,.bool false,.bool true],.bool true]) (by simp [results,Tryz.results91,go_sem,z0,z1,z2,z3,z4,z5]) rfl ⟨rfl,(Below.refl _ _).alloc (Nat.le_refl _) _⟩
theorem words_of19 (w:World):Calls Tryz.prog 91 #[.int .i64 19] w fun e w'=>e= .returned (.tuple #[wformV { data:= #[98,110,122]} 19,.bool true])/\Below w.heap.size w w':=by
 have r0:=heap_alloc_new w (.cells #[.string { data:= #[98,110,122]},.bool false,.bool true,.bool false,.bool false,.bool true] 156)
 have HN:=fun w0=>words_name19 w0
 go_enter Tryz.func91,Tryz.ntmps91
 go_wp2_with (first|(go_at_call 134;refine (HN _).mono ?_;rintro e w2 ⟨rfl,rfl⟩))
 have z0:(w.alloc (.cells #[.string { data:= #[98,110,122]},.bool false,.bool true,.bool false,.bool false,.bool true] 156)).cell? ⟨w.heap.size,0,none⟩=some (.string { data:= #[98,110,122]}):=(cell_blk r0 0).trans rfl
 have z1:(w.alloc (.cells #[.string { data:= #[98,110,122]},.bool false,.bool true,.bool false,.bool false,.bool true] 156)).cell? ⟨w.heap.size,1,none⟩=some (.bool false):=(cell_blk r0 1).trans rfl
 have z2:(w.alloc (.cells #[.string { data:= #[98,110,122]},.bool false,.bool true,.bool false,.bool false,.bool true] 156)).cell? ⟨w.heap.size,2,none⟩=some (.bool true):=(cell_blk r0 2).trans rfl
 have z3:(w.alloc (.cells #[.string { data:= #[98,110,122]},.bool false,.bool true,.bool false,.bool false,.bool true] 156)).cell? ⟨w.heap.size,3,none⟩=some (.bool false):=(cell_blk r0 3).trans rfl
 have z4:(w.alloc (.cells #[.string { data:= #[98,110,122]},.bool false,.bool true,.bool false,.bool false,.bool true] 156)).cell? ⟨w.heap.size,4,none⟩=some (.bool false):=(cell_blk r0 4).trans rfl
 have z5:(w.alloc (.cells #[.string { data:= #[98,110,122]},.bool false,.bool true,.bool false,.bool false,.bool true] 156)).cell? ⟨w.heap.size,5,none⟩=some (.bool true):=(cell_blk r0 5).trans rfl
 exact bodyPost_ret (v:= .tuple #[.agg #[.string { data:= #[98,110,122]},.bool false,.bool true,.bool false,.bool false,.bool true],.bool true]) (by simp [results,Tryz.results91,go_sem,z0,z1,z2,z3,z4,z5]) rfl ⟨rfl,(Below.refl _ _).alloc (Nat.le_refl _) _⟩
theorem words_of20 (w:World):Calls Tryz.prog 91 #[.int .i64 20] w fun e w'=>e= .returned (.tuple #[wformV { data:= #[104,97,108,116]} 20,.bool true])/\Below w.heap.size w w':=by
 have r0:=heap_alloc_new w (.cells #[.string { data:= #[104,97,108,116]},.bool false,.bool false,.bool false,.bool false,.bool true] 156)
 have HN:=fun w0=>words_name20 w0
 go_enter Tryz.func91,Tryz.ntmps91
 go_wp2_with (first|(go_at_call 134;refine (HN _).mono ?_;rintro e w2 ⟨rfl,rfl⟩))
 have z0:(w.alloc (.cells #[.string { data:= #[104,97,108,116]},.bool false,.bool false,.bool false,.bool false,.bool true] 156)).cell? ⟨w.heap.size,0,none⟩=some (.string { data:= #[104,97,108,116]}):=(cell_blk r0 0).trans rfl
 have z1:(w.alloc (.cells #[.string { data:= #[104,97,108,116]},.bool false,.bool false,.bool false,.bool false,.bool true] 156)).cell? ⟨w.heap.size,1,none⟩=some (.bool false):=(cell_blk r0 1).trans rfl
 have z2:(w.alloc (.cells #[.string { data:= #[104,97,108,116]},.bool false,.bool false,.bool false,.bool false,.bool true] 156)).cell? ⟨w.heap.size,2,none⟩=some (.bool false):=(cell_blk r0 2).trans rfl
 have z3:(w.alloc (.cells #[.string { data:= #[104,97,108,116]},.bool false,.bool false,.bool false,.bool false,.bool true] 156)).cell? ⟨w.heap.size,3,none⟩=some (.bool false):=(cell_blk r0 3).trans rfl
 have z4:(w.alloc (.cells #[.string { data:= #[104,97,108,116]},.bool false,.bool false,.bool false,.bool false,.bool true] 156)).cell? ⟨w.heap.size,4,none⟩=some (.bool false):=(cell_blk r0 4).trans rfl
 have z5:(w.alloc (.cells #[.string { data:= #[104,97,108,116]},.bool false,.bool false,.bool false,.bool false,.bool true] 156)).cell? ⟨w.heap.size,5,none⟩=some (.bool true):=(cell_blk r0 5).trans rfl
 exact bodyPost_ret (v:= .tuple #[.agg #[.string { data:= #[104,97,108,116]},.bool false,.bool false,.bool false,.bool false,.bool true],.bool true]) (by simp [results,Tryz.results91,go_sem,z0,z1,z2,z3,z4,z5]) rfl ⟨rfl,(Below.refl _ _).alloc (Nat.le_refl _) _⟩
theorem words_of (w:World){op:Int}(h:1<=op/\op<=20):Calls Tryz.prog 91 #[.int .i64 op] w fun e w'=>∃ word,e= .returned (.tuple #[wformV word op,.bool true])/\Below w.heap.size w w':=by
 have h20:op=1\/op=2\/op=3\/op=4\/op=5\/op=6\/op=7\/op=8\/op=9\/op=10\/op=11\/op=12\/op=13\/op=14\/op=15\/op=16\/op=17\/op=18\/op=19\/op=20:=by omega
 rcases h20 with rfl|rfl|rfl|rfl|rfl|rfl|rfl|rfl|rfl|rfl|rfl|rfl|rfl|rfl|rfl|rfl|rfl|rfl|rfl|rfl
 ·exact (words_of1 w).mono (fun e w' h=>⟨_,h⟩)
 ·exact (words_of2 w).mono (fun e w' h=>⟨_,h⟩)
 ·exact (words_of3 w).mono (fun e w' h=>⟨_,h⟩)
 ·exact (words_of4 w).mono (fun e w' h=>⟨_,h⟩)
 ·exact (words_of5 w).mono (fun e w' h=>⟨_,h⟩)
 ·exact (words_of6 w).mono (fun e w' h=>⟨_,h⟩)
 ·exact (words_of7 w).mono (fun e w' h=>⟨_,h⟩)
 ·exact (words_of8 w).mono (fun e w' h=>⟨_,h⟩)
 ·exact (words_of9 w).mono (fun e w' h=>⟨_,h⟩)
 ·exact (words_of10 w).mono (fun e w' h=>⟨_,h⟩)
 ·exact (words_of11 w).mono (fun e w' h=>⟨_,h⟩)
 ·exact (words_of12 w).mono (fun e w' h=>⟨_,h⟩)
 ·exact (words_of13 w).mono (fun e w' h=>⟨_,h⟩)
 ·exact (words_of14 w).mono (fun e w' h=>⟨_,h⟩)
 ·exact (words_of15 w).mono (fun e w' h=>⟨_,h⟩)
 ·exact (words_of16 w).mono (fun e w' h=>⟨_,h⟩)
 ·exact (words_of17 w).mono (fun e w' h=>⟨_,h⟩)
 ·exact (words_of18 w).mono (fun e w' h=>⟨_,h⟩)
 ·exact (words_of19 w).mono (fun e w' h=>⟨_,h⟩)
 ·exact (words_of20 w).mono (fun e w' h=>⟨_,h⟩)
theorem words_has (w:World)(i:Al.Inst)(word:ByteArray)(f:Fin 5->Bool):Calls Tryz.prog 92 #[.agg #[.int .i64 i.op,.int .i64 i.d,.int .i64 i.a,.int .i64 i.b,.int .i64 i.c,.int .i64 i.k],.agg #[.string word,.bool (f 0),.bool (f 1),.bool (f 2),.bool (f 3),.bool (f 4)]] w fun e w'=>∃ k1 k2,e= .returned (.tuple #[.slice (some ⟨k1,0,none⟩) 5 5,.slice (some ⟨k2,0,none⟩) 5 5])/\w'.heap[k1]?=some (.cells #[.bool (f 0),.bool (f 1),.bool (f 2),.bool (f 3),.bool (f 4)] 4 (0,0))/\w'.heap[k2]?=some (.cells #[.int .i64 i.d,.int .i64 i.a,.int .i64 i.b,.int .i64 i.c,.int .i64 i.k] 2 (0,0))/\Below w.heap.size w w':=by
 obtain⟨f0,f1,f2,f3,f4,hf0,hf1,hf2,hf3,hf4⟩:∃ f0 f1 f2 f3 f4,f0=f 0/\f1=f 1/\f2=f 2/\f3=f 3/\f4=f 4:=⟨_,_,_,_,_,rfl,rfl,rfl,rfl,rfl⟩
 rw [<-hf0,<-hf1,<-hf2,<-hf3,<-hf4]
 clear hf0 hf1 hf2 hf3 hf4
 obtain⟨W,hW⟩:∃ W,W=(w.alloc (.cells #[.int .i64 i.op,.int .i64 i.d,.int .i64 i.a,.int .i64 i.b,.int .i64 i.c,.int .i64 i.k] 97)).alloc (.cells #[.string word,.bool f0,.bool f1,.bool f2,.bool f3,.bool f4] 156):=⟨_,rfl⟩
 obtain⟨ki,hki⟩:∃ ki,ki=w.heap.size:=⟨_,rfl⟩
 obtain⟨kf,hkf⟩:∃ kf,kf=ki+1:=⟨_,rfl⟩
 have hb0:Below w.heap.size w W:=by rw [hW];exact alloc_two _ _ _
 have bi:W.heap[ki]?=some (.cells #[.int .i64 i.op,.int .i64 i.d,.int .i64 i.a,.int .i64 i.b,.int .i64 i.c,.int .i64 i.k] 97 (0,0)):=by rw [hW,hki];exact alloc_blk _ (heap_alloc_new w _)
 have bf:W.heap[kf]?=some (.cells #[.string word,.bool f0,.bool f1,.bool f2,.bool f3,.bool f4] 156 (0,0)):=by rw [hW,hkf,hki];exact alloc_at _ _ _
 go_enter Tryz.func92,Tryz.ntmps92
 go_wp2_with fail
 rw [<-hW]
 simp only [<-hki,<-hkf]
 have i1:W.cell? ⟨ki,1,none⟩=some (.int .i64 i.d):=(cell_blk bi _).trans rfl
 have i2:W.cell? ⟨ki,2,none⟩=some (.int .i64 i.a):=(cell_blk bi _).trans rfl
 have i3:W.cell? ⟨ki,3,none⟩=some (.int .i64 i.b):=(cell_blk bi _).trans rfl
 have i4:W.cell? ⟨ki,4,none⟩=some (.int .i64 i.c):=(cell_blk bi _).trans rfl
 have i5:W.cell? ⟨ki,5,none⟩=some (.int .i64 i.k):=(cell_blk bi _).trans rfl
 have f1':W.cell? ⟨kf,1,none⟩=some (.bool f0):=(cell_blk bf _).trans rfl
 have f2':W.cell? ⟨kf,2,none⟩=some (.bool f1):=(cell_blk bf _).trans rfl
 have f3':W.cell? ⟨kf,3,none⟩=some (.bool f2):=(cell_blk bf _).trans rfl
 have f4':W.cell? ⟨kf,4,none⟩=some (.bool f3):=(cell_blk bf _).trans rfl
 have f5':W.cell? ⟨kf,5,none⟩=some (.bool f4):=(cell_blk bf _).trans rfl
 clear hW hki hkf bi bf
 go_region_held3 (fun w'=>w'.cell? ⟨ki,1,none⟩=some (.int .i64 i.d)/\w'.cell? ⟨ki,2,none⟩=some (.int .i64 i.a)/\w'.cell? ⟨ki,3,none⟩=some (.int .i64 i.b)/\w'.cell? ⟨ki,4,none⟩=some (.int .i64 i.c)/\w'.cell? ⟨ki,5,none⟩=some (.int .i64 i.k)/\w'.cell? ⟨kf,1,none⟩=some (.bool f0)/\w'.cell? ⟨kf,2,none⟩=some (.bool f1)/\w'.cell? ⟨kf,3,none⟩=some (.bool f2)/\w'.cell? ⟨kf,4,none⟩=some (.bool f3)/\w'.cell? ⟨kf,5,none⟩=some (.bool f4)) (go_keep) (fail)
 ·go_wp2_with fail
  exact bodyPost_ret (v:= .tuple #[.slice (some ⟨W.heap.size,0,none⟩) 5 5,.slice (some ⟨W.heap.size+1,0,none⟩) 5 5]) (by simp [results,Tryz.results92,go_sem]) rfl ⟨_,_,rfl,alloc_blk _ (heap_alloc_new W _),alloc_at W _ _,below_drew' ((hb0.alloc hb0.size _).alloc (by have:=hb0.size;simp;omega) _)⟩
 ·go_wp2_with fail
  exact bodyPost_ret (v:= .tuple #[.slice (some ⟨W.heap.size+1,0,none⟩) 5 5,.slice (some ⟨W.heap.size,0,none⟩) 5 5]) (by simp [results,Tryz.results92,go_sem]) rfl ⟨_,_,rfl,alloc_at W _ _,alloc_blk _ (heap_alloc_new W _),below_drew' ((hb0.alloc hb0.size _).alloc (by have:=hb0.size;simp;omega) _)⟩
end Go.Proofs.YtkplfaionpplaaaGreatDoor
