/- JF18: own texts of this seat, joined and shortened by pack4.py: Gh, Gi, Gj. -/
import Derived.Test.YtdhgchekdkjcpaaGreatDoorJF16
import Derived.Test.YtdhgchekdkjcpaaGreatDoorJF17
set_option linter.unusedVariables false
set_option linter.unusedSimpArgs false
set_option maxRecDepth 100000
set_option maxHeartbeats 64000000
open List renaming getElem?_eq_getElem→gg,length_append→gh,getElem?_append_left→gi,replicate→gk,getElem_mem→go
open Nat renaming le_refl→gn,zero_le→jB
namespace Go.Proofs.YtdhgchekdkjcpaaGreatDoor
section
open Go Go.AM Go.Lib
theorem conH_ownC{P:Program}{f:FuncId}{args:List V}{K:V→List B→Prop}(e z:Nat)(k0:Nat)(sc:List Nat){H:List B}{cs:List V}(hk:H[k0]?=some (.cells cs))(hc:OwnF H.length cs (dO H.length sc 0 cs))
  (h:bR P f args (H.set k0 (.cells (dO H.length sc 0 cs))++[.buf e z [] false]) K):bR P f args H K:=by
 refine⟨h.1,fun s vals hA hg hsz hrel=>?_⟩;obtain⟨rfl,hZ⟩:=hA;obtain⟨p1,p2⟩:=push0 hg 0 e z false rfl rfl rfl (gn _) (fun _ _=>rfl);have hlc:=hc.len;generalize hs1:s.push s.w 0 0 (.buf e z [] false)=s1 at p1 p2
 have hk1:s1.H[k0]?=some (.cells cs):=by rw[←hs1];simp only[St.push];rw[gi (AM.getElem?_lt hk)];exact hk
 have hr1:∀x y u,Rel s x u→(y=x∨(x = .nilS∧y = .buf s.H.length 0 0 0))→Rel s1 y u:=fun x y u h1 h2=>by subst hs1;exact rel_own p2 h1 h2
 have hw1:s1.w=s.w:=by rw[←hs1];rfl
 have hst:=ba (w:=s1.w) (bl':=.cells (dO s.H.length sc 0 cs)) p1 hk1 (lvC hk1) trivial rfl rfl rfl (gn _) (fun _ _ _=>rfl)
 have hgd:AM.Good (s1.setB s1.w k0 (.cells (dO s.H.length sc 0 cs))):=by
  refine bq p1 hk1 (lvC hk1) trivial rfl rfl rfl (gn _) (fun _ _ _=>rfl) (fun hst=>?_);obtain⟨h1,vs,t,h2,h3,h4⟩:=hg.blk k0 _ hk
  have hφ:s1.φ k0=s.φ k0:=by rw[←hs1];exact bL _ _ (by have:=AM.getElem?_lt hk;omega)
  refine⟨fun d hd=>?_,vs,t,by show s1.w.heap[s1.φ k0]?=_;rw[hw1,hφ];exact h2,by omega,fun i d u hd hu=>?_⟩
  ·obtain⟨i,hi⟩:=List.mem_iff_getElem?.1 hd;have hx:cs[i]?=some (cs[i]'(by have:=AM.getElem?_lt hi;omega)):=gg _
   rcases hc.at_ i _ d hx hi with h9 | ⟨_,h9⟩
   ·rw[h9];exact h1 _ (go _)
   ·rw[h9];rfl
  ·have hx:cs[i]?=some (cs[i]'(by have:=AM.getElem?_lt hd;omega)):=gg _;exact(hr1 _ d u (h4 i _ u hx hu) (hc.at_ i _ d hx hd)).step hst
 have hH:(s1.setB s1.w k0 (.cells (dO s.H.length sc 0 cs))).H=s.H.set k0 (.cells (dO s.H.length sc 0 cs))++[.buf e z [] false]:=by
  rw[←hs1];simp only[St.setB,St.push];rw[List.set_append,if_pos (AM.getElem?_lt hk)]
 have:=h.2 (s1.setB s1.w k0 (.cells (dO s.H.length sc 0 cs))) vals ⟨hH,(hZ.step p2).step hst⟩ hgd hsz (fun i a u ha hu=>(hr1 a a u (hrel i a u ha hu) (.inl rfl)).step hst);have e1:(s1.setB s1.w k0 (.cells (dO s.H.length sc 0 cs))).w=s.w:=hw1;rw[e1]at this
 exact this.mono fun e' w' ⟨u,s',r,a1,a2,a3,a4,a5,a6⟩=>⟨u,s',r,a1,a2,a3,(p2.trans hst).trans a4,a5,a6⟩
theorem write_0(c:Cert)(hk:¬(1≤c.k∧c.k≤4)):bR Tryz.prog 34 [.ptr 1 0,aF c] (wrH (B.cells (aB c)) [] []) fun r H'=>r = .bool (okC c)∧∃G,H'=wrH (B.cells (aB c)) (wrL c) []++G:=by
 have e1:wrL c=[]:=by unfold wrL;rw[if_neg hk]
 have e2:okC c=false:=by unfold okC;rw[decide_eq_false hk];rfl
 rw[e1,e2];refine ay tok Tryz.func34 rfl rfl ?_;refine wx ?_;simp -dsimp[Tryz.f34,gk,aF,aB,aC,aE,wrH,(show ¬c.k=1 by omega),(show ¬c.k=2 by omega),(show ¬c.k=3 by omega),(show ¬c.k=4 by omega)]
theorem write_c(c:Cert)(h:SzC c):bR Tryz.prog 34 [.ptr 1 0,aF c] (wrH (B.cells (aB c)) [] []) fun r H'=>r = .bool (okC c)∧H'=wrH (B.cells (aB c)) (wrL c) []:=by
 refine cut1 ?_ (by simp[bS]) (by simp) (cA (bm c _) (by simp) _);by_cases h1:c.k=1
 ·exact write_1 c h1 h
 by_cases h2:c.k=2
 ·exact write_2 c h2 h
 by_cases h3:c.k=3
 ·exact write_3 c h3 h
 by_cases h4:c.k=4
 ·exact write_4 c h4 h
 exact write_0 c (by omega)
theorem lnT_ge:∀(ls:List (List UInt8)),ls.length≤(lnT ls).length
 | []=>jB _
 | x::l=>by
  have:=lnT_ge l;rw[bP];simp;omega
theorem format_c(c:Cert)(h:SzC c):aS Tryz.prog 12 [aF c] fun r=>r = .tup [.str (bs (cF c)),.int .i64 (dC c)]:=by
 have hw:=write_c c h;have hw2:=conH_ownC (H:=[B.cells (aB c),B.cells [.nilS]]) (cs:=[.nilS]) 9 1 1 [0] rfl (by simp) hw;simp only[aB,aC,aE,aF]at hw2;by_cases ho:okC c=true
 ·rw[ho]at hw2;have hx:=txtC_ok ho;have hl:=txtC_len h;rw[hx]at hl;have hlen:=lnT_ge (bM c);have hj:=join_k false (bM c) (by omega) (by omega);have hJ:=gL (bM c) (by simp[bM]);obtain⟨J,hJe⟩:∃J,J=[10].intercalate (bM c):=⟨_,rfl⟩;rw[←hJe]at hj hJ
  have hJl:J.length+1≤3000000000:=by
   have:=congrArg List.length hJ;rw[gh]at this;simp at this;omega
  rw[wrL_ok ho]at hw2;refine sPx Tryz.func12 rfl rfl ?_;simp -dsimp[Tryz.f12,gk,aF,aB,aC,aE];refine wcE hw2 ?_;simp -dsimp[wrH];refine(callF 2 (xs:=(bM c).map fun p=>.str (bs p)) (e:=9) (z:=1) (fz:=false) rfl hj (by simp;rfl) (by simp)).mono ?_;rintro r H' ⟨rfl,rfl⟩;by_cases hz:(lnT (bM c)).length≤65536
  ·have e1:dC c=0:=by unfold dC;rw[if_pos ho,if_pos hz]
   have e2:cF c=lnT (bM c):=by unfold cF;rw[if_pos e1]
   rw[e1,e2,←hJ];rw[←hJ]at hz;simp at hz;simp -dsimp[aP,aI,ao,(show J.length+1≤9223372036854775807 by omega),(show ¬(65536:Int)<(J.length:Int)+1 by omega),(show J.length≤9223372036854775806 by omega)]
  ·have e1:dC c=3:=by unfold dC;rw[if_pos ho,if_neg hz]
   have e2:cF c=[]:=by unfold cF;rw[if_neg (by rw[e1];decide)]
   rw[e1,e2];rw[←hJ]at hz;simp at hz;simp -dsimp[aP,aI,ao,(show J.length+1≤9223372036854775807 by omega),(show(65536:Int)<(J.length:Int)+1 by omega),(show J.length≤9223372036854775806 by omega)]
 ·have e1:dC c=1:=by unfold dC;rw[if_neg ho]
  have e2:cF c=[]:=by unfold cF;rw[if_neg (by rw[e1];decide)]
  rw[Bool.not_eq_true]at ho;rw[ho]at hw2;rw[e1,e2];refine sPx Tryz.func12 rfl rfl ?_;simp -dsimp[Tryz.f12,gk,aF,aB,aC,aE];refine wcE hw2 ?_;simp -dsimp[wrH,aP]
theorem fmtT_len(c:Cert):(cF c).length≤65536:=by
 unfold cF;split
 ·rename_i h;unfold dC at h;split at h
  ·split at h
   ·assumption
   ·cases h
  ·cases h
 ·simp
def sizeC(c:Cert):Nat:=(spl 10 (cF c)).length-1
theorem size_c(c:Cert)(h:SzC c):aS Tryz.prog 15 [aF c] fun r=>r = .int .i64 (sizeC c:Nat):=by
 have hf:=format_c c h;have hc:=count_k (cF c) 10 (by have:=fmtT_len c;omega);obtain⟨n,hn⟩:∃n,n=sizeC c:=⟨_,rfl⟩;rw[show(spl 10 (cF c)).length-1=n from hn.symm]at hc;rw[←hn];simp only[aF,aB,aC,aE]at hf;refine sPx Tryz.func15 rfl rfl ?_;simp -dsimp[Tryz.f15,gk,aF,aB,aC,aE];refine cPx (hf) (by simp) ?_;simp -dsimp[];refine cPx (hc) (by simp) ?_;simp -dsimp[]
end
end Go.Proofs.YtdhgchekdkjcpaaGreatDoor
