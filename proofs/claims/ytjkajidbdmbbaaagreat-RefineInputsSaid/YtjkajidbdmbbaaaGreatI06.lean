/- Parts. -/
import Derived.Test.YtjkajidbdmbbaaaGreatI04
import Derived.IntWalk
set_option linter.unusedSimpArgs false
set_option linter.unusedVariables false
set_option maxRecDepth 100000
set_option maxHeartbeats 16000000
open Go.Proofs.Tryz
namespace Go.Proofs.YtjkajidbdmbbaaaGreat
open Go.RowKit
theorem kU {a b:Int}(h:a=b):Ending.returned (.int .u32 a)=.returned (.int .u32 b):=by rw[h]
theorem ret_bool' {a b:Bool}(h:a=b):Ending.returned (.bool a)=.returned (.bool b):=by rw[h]
theorem qh {n:Int}(h:n<=62):Wd.sz n<=4611686018427387904:=by
 have:=Wd.sz_le (n:=n) (m:=62) (by omega);have e:Wd.sz 62=4611686018427387904:=by decide
 omega
theorem iH (n:Int)(w:World):Calls prog 73 #[.int .i64 n] w (RS (.bool (Wd.widB n)) w):=by
 go_enter func73, ntmps73
 go_wp2;all_goals go_ret
 all_goals exact⟨ret_bool' (by unfold Wd.widB;grind),rfl⟩
theorem lV (n:Int)(w:World)(h0:0<=n)(h1:n<=62):Calls prog 74 #[.int .i64 n] w (RS (.int .i64 (Wd.sz n)) w):=by
 obtain⟨k,rfl⟩:=tb h0;have d:=qh h1;have j:=Wd.sz_pos (k:Int);unfold Wd.sz at *;rw[tc]at *;have g:k<64:=by omega
 go_enter func74, ntmps74
 go_wp2;go_ret;exact⟨dc (by omega),rfl⟩
theorem eu {n:Int}(h:Wd.Wid n):Wd.widB n=true:=by unfold Wd.widB;have:=h.1;have:=h.2;simp;omega
theorem lG {n:Int}(h:Wd.widB n=true):Wd.Wid n:=by unfold Wd.widB at h;simp at h;exact h
theorem lJ (n x:Int)(w:World)(h0:0<=x)(h1:x<4294967296):Calls prog 48 #[.int .i64 n,.int .u32 x] w (RS (.bool (Wd.wordB n x)) w):=by
 have m:=dJ fun j=>iH n j;by_cases g:Wd.Wid n
 ·have r:=g.1;have t:=g.2;have q:=dJ fun j=>lV n j (by omega) (by omega);have d:=eu g;have p:Hid (Wd.wordB n x=decide (x<Wd.sz n)):=by show _=_;unfold Wd.wordB;rw[d];rfl
  rw[d]at m;obtain⟨u,l⟩:=xJ (Wd.sz n);rw[l]at q p;clear d l g
  go_enter func48, ntmps48
  go_wp2_with (first|(go_at_call 73;refine(m.out _).mono ?_;rintro e j ⟨rfl,rfl⟩)|(go_at_call 74;refine(q.out _).mono ?_;rintro e j ⟨rfl,rfl⟩))
  go_ret;exact⟨cZ p.out.symm,rfl⟩
 ·have d:Wd.widB n=false:=by
   cases h:Wd.widB n with
   | false=>rfl
   | true=>exact absurd (lG h) g
  have p:Hid (Wd.wordB n x=false):=by show _=_;unfold Wd.wordB;rw[d];rfl
  rw[d]at m;clear d g
  go_enter func48, ntmps48
  go_wp2_with (go_at_call 73;refine(m.out _).mono ?_;rintro e j ⟨rfl,rfl⟩);go_ret;exact⟨cZ p.out.symm,rfl⟩
theorem rz {n a:Int}(hn:Wd.Wid n)(h:Wd.Word n a):0<=a/\a<4294967296:=by have:=Wd.sz_32 hn;have:=h.1;have:=h.2;omega
