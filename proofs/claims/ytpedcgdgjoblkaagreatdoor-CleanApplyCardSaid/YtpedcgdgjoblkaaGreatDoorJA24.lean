/- JA24: own texts of this seat, joined and shortened by pack4.py: SL. -/
import Derived.Test.YtpedcgdgjoblkaaGreatDoorJA23
set_option linter.unusedVariables false
set_option linter.unusedSimpArgs false
set_option maxRecDepth 100000
set_option maxHeartbeats 64000000
open List renaming replicate→aI,getElem?_eq_getElem→kJ,append_nil→kX,set_cons_zero→kn,set_cons_succ→ko
section
namespace Go.AM
open Go
theorem jD{P:Program}{f:FuncId}{args:List V}{H G:List B}{k e z:Nat}{xs cs cs':List V}{fz:Bool}(h:aT P f args H fun r H'=>r = .tup cs∧H'=G)(hk:G[k]?=some (.buf e z xs fz))(hr:eD (.buf k 0 xs.length xs.length) (.lst z false xs) cs cs'):
  aM P (.fn f []) args H fun r H'=>r = .tup cs'∧H'=G.set k (.buf e z xs true):=by
 simp only[aM,kX];refine⟨h.1,fun s vals hA hg hsz hrel=>(h.2 s vals hA hg hsz hrel).mono fun e' w' ⟨u,s',r,a1,a2,a3,a4,a5,a6,a7⟩=>?_⟩;subst a6;rw[←a7]at hk;obtain⟨p1,p2,_⟩:=ej a3 hk;have hl:=hr.len
 cases a5 with
 | tup _ us h1 h3 =>
  refine⟨_,s'.frz k (.buf e z xs true),.tup cs',a1,a2,p1,a4.trans p2,.tup cs' us (by omega) (fun i c v hc hv=>?_),rfl,by rw[←a7];rfl⟩;have hx:cs[i]?=some (cs[i]'(by have:=aB hc;omega)):=kJ _;exact gJ a3 hk (h3 i _ v hx hv) (hr.at_ i _ c hx hc)
end Go.AM
namespace Go.Proofs.YtpedcgdgjoblkaaGreatDoor
open Go Go.AM
theorem endO(db dn ud nw:V)(D N:B):aT Tryz.prog 56 [.ptr 0 0] [stB db dn ud true nw,D,N] fun r H'=>r = .tup [nw,.int .i64 0]∧H'=[stB db dn ud false .nilS,D,N]:=by
 refine aG tok Tryz.func56 rfl rfl ?_;refine wx ?_;simp -dsimp[Tryz.f56,aI,stB]
theorem commit_o(db ud:V)(dl nl:List V)(hn:0<nl.length)(hd:dl.length≤1000000)(p:StO db ud dl nl):aT Tryz.prog 22 [.ptr 0 0] [stB db (.buf 1 0 dl.length dl.length) ud true (.buf 2 0 nl.length nl.length),dnS dl,nwS nl] fun r H'=>r = .int .i64 0∧∃G,H'=[stB db (.buf 1 0 (dl.length+1) (dl.length+1)) .nilS false .nilS,dnS (dl++[.lst 11 false nl])]++G:=by
 have c1:=jD (k:=2) (e:=45) (z:=11) (xs:=nl) (fz:=false) (cs':=[.lst 11 false nl,.int .i64 0]) (endO db (.buf 1 0 dl.length dl.length) ud (.buf 2 0 nl.length nl.length) (dnS dl) (nwS nl)) rfl (by simp[eD])
 have c2:=fun G=>ja (H:=[stB db (.buf 1 0 dl.length dl.length) ud false .nilS,dnS dl,G]) (k:=0) (L:=1) (commit1 db ud .nilS false false nl dl hn hd) ⟨p.qdb,p.qud,by simp,p.qdl,p.rdb,p.rud,rfl,p.rdl⟩ ⟨p.qdb,by simp,by simp,fun x hx=>by
  rcases List.mem_append.1 hx with h | h
  ·exact p.qdl x h
  ·rw[List.mem_singleton.1 h];exact(pure_lst _ _ _).2 p.qnl,p.rdb,rfl,rfl,fun x hx=>by
  rcases List.mem_append.1 hx with h | h
  ·exact p.rdl x h
  ·rw[List.mem_singleton.1 h];simp[V.cells,V.one]⟩ (by simpa using p.qnl) (by simp) (by decide) rfl rfl
 simp only[kn,ko,stB]at c1 c2 ⊢;refine aG tok Tryz.func22 rfl rfl ?_;refine wx ?_;simp -dsimp[Tryz.f22,aI];refine c1.mono ?_;rintro r H' ⟨rfl,rfl⟩;simp -dsimp[];refine wcE (c2 _) ?_;simp -dsimp[]
end Go.Proofs.YtpedcgdgjoblkaaGreatDoor
end
