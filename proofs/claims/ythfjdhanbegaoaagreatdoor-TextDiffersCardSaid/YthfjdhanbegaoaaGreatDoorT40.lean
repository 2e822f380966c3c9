/- Parts. -/
import Derived.Test.YthfjdhanbegaoaaGreatDoorT24
set_option linter.unusedSimpArgs false
set_option linter.unusedVariables false
set_option maxRecDepth 100000
set_option maxHeartbeats 16000000
namespace Go.Proofs.YthfjdhanbegaoaaGreatDoor
namespace Tx
def sumS:S:=[102,117,110,99,32,56,32,56,32,58,32,56,32,58,10,48,58,10,50,32,61,32,97,100,100,46,49,32,56,32,48,32,49,10,114,101,116,32,50,10]
def badS:S:=[102,117,110,99,32,48,56,32,58,32,56,32,58,10,48,58,10,114,101,116,32,48,10]
def sumF:Fn:=⟨[8,8],8,[],[[⟨1,8,1,[0,1],0,[]⟩,⟨31,0,0,[2],0,[]⟩]]⟩
theorem num_small {z:Int}(h:0<=z/\z<10):num z=[UInt8.ofNat (48+z.toNat)]:=by
 rw[num_dec h.1,Lib.decDigits];split
 ·rfl
 ·omega
theorem sum_text:textS sumF=sumS:=by have h0:=num_small (z:=0) (by decide);have d:=num_small (z:=1) (by decide);have g:=num_small (z:=2) (by decide);have j:=num_small (z:=8) (by decide);simp[textS,linesS,linesFrom,insLines,lineS,wordsI,restW,opW,headW,sumF,unw,numbered,h0,d,g,j,nameS,names,sumS]
theorem sum_valid:Ref.validate sumF=0:=by decide +kernel
theorem sum_im:Im sumF:=by intro l d x g;simp[sumF]at d;subst d;simp at g;rcases g with rfl|rfl<;>exact⟨by decide,by decide⟩
theorem sum_read:readP sumS=some sumF:=read_iff.2 ⟨sum_valid,sum_text,sum_im⟩
theorem bad_read:readP badS=none:=by
 cases h:readP badS with
 | none=>rfl
 | some f =>
  exfalso;obtain⟨t,u,y⟩:=read_iff.1 h;have j:=pr_of t y;have g:=cut_text j;rw[u]at g;have e:cutS 10 badS=[[102,117,110,99,32,48,56,32,58,32,56,32,58],[48,58],[114,101,116,32,48],[]]:=by decide +kernel
  rw[e,linesS]at g;injection g with g _;have d:=cut_head j;rw[<-g]at d;have q:cutS 32 [102,117,110,99,32,48,56,32,58,32,56,32,58]=[[102,117,110,99],[48,56],[58],[56],[58]]:=by decide +kernel
  rw[q]at d;unfold headW at d;injection d with _ d
  cases hps:f.params with
  | nil=>rw[hps]at d;simp at d
  | cons p r =>
   rw[hps]at d;simp only[List.map_cons,List.cons_append]at d;injection d with d _;have l:=j.params p (by rw[hps];simp);have m:=numR_num l;rw[<-d]at m;have:numR [48,56]=8:=by decide +kernel
   rw[this]at m;subst m;have:=num_small (z:=8) (by decide);rw[this]at d;simp at d
theorem sub_op:opOf [115,117,98]=(2,false):=by decide +kernel
end Tx
