/- JM37: own texts of this seat, joined and shortened by pack4.py: SL. -/
import Derived.Test.YtdnhplencamncaaGreatDoorJM35
set_option linter.unusedVariables false
set_option linter.unusedSimpArgs false
set_option maxRecDepth 100000
set_option maxHeartbeats 64000000
open List renaming replicate→oE,getElem?_eq_getElem→oG,append_nil→oU,set_cons_zero→oz,set_cons_succ→pG
section
namespace Go.AM
open Go
theorem mM{P:Program}{f:FuncId}{args:List V}{H G:List B}{k e z:Nat}{xs cs cs':List V}{fz:Bool}(h:aU P f args H fun r H'=>r = .tup cs∧H'=G)(hk:G[k]?=some (.buf e z xs fz))(hr:dM (.buf k 0 xs.length xs.length) (.lst z false xs) cs cs'):
  aL P (.fn f []) args H fun r H'=>r = .tup cs'∧H'=G.set k (.buf e z xs true):=by
 simp only[aL,oU];refine⟨h.1,fun s vals hA hg hsz hrel=>(h.2 s vals hA hg hsz hrel).mono fun e' w' ⟨u,s',r,a1,a2,a3,a4,a5,a6,a7⟩=>?_⟩;subst a6;rw[←a7]at hk;obtain⟨p1,p2,_⟩:=fE a3 hk;have hl:=hr.len
 cases a5 with
 | tup _ us h1 h3 =>
  refine⟨_,s'.frz k (.buf e z xs true),.tup cs',a1,a2,p1,a4.trans p2,.tup cs' us (by omega) (fun i c v hc hv=>?_),rfl,by rw[←a7];rfl⟩;have hx:cs[i]?=some (cs[i]'(by have:=aB hc;omega)):=oG _;exact gA a3 hk (h3 i _ v hx hv) (hr.at_ i _ c hx hc)
end Go.AM
namespace Go.Proofs.YtdnhplencamncaaGreatDoor
open Go Go.AM
theorem endO(db dn ud nw:V)(D N:B):aU Tryz.prog 89 [.ptr 0 0] [stB db dn ud true nw,D,N] fun r H'=>r = .tup [nw,.int .i64 0]∧H'=[stB db dn ud false .nilS,D,N]:=by
 refine aE tok Tryz.func89 rfl rfl ?_;refine wx ?_;simp -dsimp[Tryz.f89,oE,stB]
theorem commit_o(db ud:V)(dl nl:List V)(hn:0<nl.length)(hd:dl.length≤1000000)(p:StO db ud dl nl):aU Tryz.prog 93 [.ptr 0 0] [stB db (.buf 1 0 dl.length dl.length) ud true (.buf 2 0 nl.length nl.length),dnS dl,nwS nl] fun r H'=>r = .int .i64 0∧∃G,H'=[stB db (.buf 1 0 (dl.length+1) (dl.length+1)) .nilS false .nilS,dnS (dl++[.lst 11 false nl])]++G:=by
 have c1:=mM (k:=2) (e:=81) (z:=11) (xs:=nl) (fz:=false) (cs':=[.lst 11 false nl,.int .i64 0]) (endO db (.buf 1 0 dl.length dl.length) ud (.buf 2 0 nl.length nl.length) (dnS dl) (nwS nl)) rfl (by simp[dM])
 have c2:=fun G=>gm (H:=[stB db (.buf 1 0 dl.length dl.length) ud false .nilS,dnS dl,G]) (k:=0) (L:=1) (commit1 db ud .nilS false false nl dl hn hd) ⟨p.qdb,p.qud,by simp,p.qdl,p.rdb,p.rud,rfl,p.rdl⟩ ⟨p.qdb,by simp,by simp,fun x hx=>by
  rcases List.mem_append.1 hx with h | h
  ·exact p.qdl x h
  ·rw[List.mem_singleton.1 h];exact(pure_lst _ _ _).2 p.qnl,p.rdb,rfl,rfl,fun x hx=>by
  rcases List.mem_append.1 hx with h | h
  ·exact p.rdl x h
  ·rw[List.mem_singleton.1 h];simp[V.cells,V.one]⟩ (by simpa using p.qnl) (by simp) (by decide) rfl rfl
 simp only[oz,pG,stB]at c1 c2 ⊢;refine aE tok Tryz.func93 rfl rfl ?_;refine wx ?_;simp -dsimp[Tryz.f93,oE];refine c1.mono ?_;rintro r H' ⟨rfl,rfl⟩;simp -dsimp[];refine wcE (c2 _) ?_;simp -dsimp[]
end Go.Proofs.YtdnhplencamncaaGreatDoor
end
