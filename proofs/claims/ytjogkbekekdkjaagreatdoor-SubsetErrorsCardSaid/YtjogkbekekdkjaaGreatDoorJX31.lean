/- JX31: own texts of this seat, joined and shortened by pack4.py: H11. -/
import Derived.Test.YtjogkbekekdkjaaGreatDoorJX30
set_option linter.unusedVariables false
set_option linter.unusedSimpArgs false
set_option maxRecDepth 100000
set_option maxHeartbeats 64000000
open Bool renaming false_or→sf,true_or→uS
open Int renaming toNat_natCast→sT,toNat_of_nonneg→uK
open List renaming replicate→rO,take_of_length_le→rt,length_cons→sB,map_append→sX,mem_of_mem_drop→sh,getElem?_cons_zero→sj,getElem?_cons_succ→sk,map_cons→tF,length_drop→tL,take→uH,drop→vI
namespace Go.Proofs.YtjogkbekekdkjaaGreatDoor
section
open Go Go.AM
theorem oZ(ws:List Int)(es:List (List Nat)):∀(k:Nat) (ch ex:List Nat) (b:Int) (l:List Nde),-1≤cP ws es k ch ex b l∧cP ws es k ch ex b l≤l.length
 | 0,_,_,_,l=>by simp[cP]
 | k+1,_,_,_,[]=>by simp[cP]
 | k+1,ch,ex,b,x::r=>by
  rw[cP];split
  ·split
   ·simp;omega
   ·simp;omega
  ·split
   ·simp;omega
   ·split
    ·simp;omega
    ·have h1:=oZ ws es k (ch++[x.v.toNat]) ex (b-ws.getD x.v.toNat 0) r;rename_i h5;obtain⟨j,hj⟩:∃j:Nat,cP ws es k (ch++[x.v.toNat]) ex (b-ws.getD x.v.toNat 0) r=j:=⟨_,(uK (by omega)).symm⟩;rw[hj,sT];rw[hj]at h1;have h2:=oZ ws es k ch (ex++[x.v.toNat]) b (r.drop j);rw[tL]at h2;split
     ·simp;omega
     ·simp only[sB];omega
theorem part_nil(ws:List Int)(es:List (List Nat))(k:Nat)(ch ex:List Nat)(b:Int):cP ws es k ch ex b [] = -1:=by cases k<;>rfl
theorem part39{ws:List Int}{es:List (List Nat)}(hb:HsB ws es)(f g fl:Bool)(k:Nat):∀(l:List Nde) (ch ex:List Nat) (fc fx:Bool) (b:Int),l.length≤k→ch.length+ex.length+l.length≤1000000→-9000000000000000000+1000000*(l.length:Int)≤b→b≤9000000000000000000 →
  aL Tryz.prog 95 [aR f g ws es,dQ fc fx ch ex b,LNd fl l] fun r=>r = .int .i64 (cP ws es k ch ex b l):=by
 have hn:=hb.n
 have hne:es.length≤1000000:=by have:=hb.ne;omega
 have hel:∀e∈es,e.length≤1000000:=fun e he=>by have:=hb.ed.len e he;omega
 induction k with
 | zero =>
  intro l ch ex fc fx b hk hm hb1 hb2;have:l=[]:=List.length_eq_zero_iff.1 (by omega);subst this;rw[part_nil];refine sPx Tryz.func95 rfl rfl ?_;simp -dsimp[Tryz.f95,rO,aR,dQ,LNd,L1,LLn,Ln]
 | succ k ih =>
  intro l ch ex fc fx b hk hm hb1 hb2
  cases l with
  | nil =>
   rw[part_nil];refine sPx Tryz.func95 rfl rfl ?_;simp -dsimp[Tryz.f95,rO,aR,dQ,LNd,L1,LLn,Ln]
  | cons x r =>
   simp only[sB]at hk hb1 hm;obtain⟨xv,xl⟩:=x;obtain⟨P,hP⟩:∃P,P=cP ws es (k+1) ch ex b (⟨xv,xl⟩::r):=⟨_,rfl⟩;rw[←hP];rw[cP]at hP;simp only at hP
   have hrl:¬((r.length:Int)+1=0):=by omega
   have cc:=closed39 ws es f g fc fx ch ex b hne hel (by omega);have cr:=right39 ws es f g fc fx false ch ex b xl (by omega) hne hel (by omega) (by omega);simp only[aR,dQ,L1,LLn,Ln,LSh]at cc cr;by_cases c1:xv = -1
   ·rw[if_pos c1]at hP;subst c1
    cases xl with
    | nil =>
     rw[if_pos rfl]at hP;by_cases c2:b≤0
     ·rw[decide_eq_true c2,uS,if_pos rfl]at hP;subst hP;refine sPx Tryz.func95 rfl rfl ?_;simp -dsimp[Tryz.f95,rO,aR,dQ,LNd,hrl,c2,L1,LLn,Ln,LSh,aS,aP];exact .inr (aC (by kernel_rfl))
     ·rw[decide_eq_false c2,sf]at hP
      cases hc:fO es ex with
      | true =>
       rw[hc]at hP cc;rw[if_pos rfl]at hP;subst hP;refine sPx Tryz.func95 rfl rfl ?_;simp -dsimp[Tryz.f95,rO,aR,dQ,LNd,hrl,c2,L1,LLn,Ln,LSh,aS,aP];refine .inr ⟨aC (by kernel_rfl),?_⟩;refine aN _ (aK (cc) (by simp)) ?_;simp -dsimp[L1,LLn,Ln,LSh,aS,aP]
      | false =>
       rw[hc]at hP cc;rw[if_neg (by simp)]at hP;subst hP;refine sPx Tryz.func95 rfl rfl ?_;simp -dsimp[Tryz.f95,rO,aR,dQ,LNd,hrl,c2,L1,LLn,Ln,LSh,aS,aP];refine .inr ⟨aC (by kernel_rfl),?_⟩;refine aN _ (aK (cc) (by simp)) ?_;simp -dsimp[L1,LLn,Ln,LSh,aS,aP]
    | cons y ys =>
     have hyl:¬((ys.length:Int)+1=0):=by omega
     have hyl2:(0:Int)<(ys.length:Int)+1:=by omega
     rw[if_neg (List.cons_ne_nil y ys)]at hP
     cases hc:ib ws es ch ex b (y::ys) with
     | true =>
      rw[hc]at hP cr;rw[if_pos rfl]at hP;subst hP;refine sPx Tryz.func95 rfl rfl ?_;simp -dsimp[Tryz.f95,rO,aR,dQ,LNd,hrl,hyl,hyl2,L1,LLn,Ln,LSh,aS,aP];refine .inr ⟨aC (by kernel_rfl),?_⟩;simp only[tF,aP]at cr;refine aN _ (aK (cr) (by simp)) ?_;simp -dsimp[L1,LLn,Ln,LSh,aS,aP]
     | false =>
      rw[hc]at hP cr;rw[if_neg (by simp)]at hP;subst hP;refine sPx Tryz.func95 rfl rfl ?_;simp -dsimp[Tryz.f95,rO,aR,dQ,LNd,hrl,hyl,hyl2,L1,LLn,Ln,LSh,aS,aP];refine .inr ⟨aC (by kernel_rfl),?_⟩;simp only[tF,aP]at cr;refine aN _ (aK (cr) (by simp)) ?_;simp -dsimp[L1,LLn,Ln,LSh,aS,aP]
   ·rw[if_neg c1]at hP;by_cases c2:xl=[]
    ·subst c2;by_cases c3:xv<0
     ·rw[if_pos (.inr (.inl c3))]at hP;subst hP;refine sPx Tryz.func95 rfl rfl ?_;simp -dsimp[Tryz.f95,rO,aR,dQ,LNd,hrl,c1,c3,L1,LLn,Ln,LSh,aS,aP]
     by_cases c4:(ws.length:Int)≤xv
     ·rw[if_pos (.inr (.inr (.inl c4)))]at hP;subst hP;refine sPx Tryz.func95 rfl rfl ?_;simp -dsimp[Tryz.f95,rO,aR,dQ,LNd,hrl,c1,c3,c4,L1,LLn,Ln,LSh,aS,aP]
     obtain⟨v,rfl⟩:∃v:Nat,xv=v:=⟨xv.toNat,by omega⟩;rw[sT]at hP
     have hvw:v<ws.length:=by omega
     have h1:=qE ch v fc (by omega);have h2:=qE ex v fx (by omega);simp only[Ln]at h1 h2;by_cases c5:v∈ch
     ·rw[if_pos (.inr (.inr (.inr (.inl c5))))]at hP;rw[List.contains_iff_mem.2 c5]at h1;subst hP;refine sPx Tryz.func95 rfl rfl ?_;simp -dsimp[Tryz.f95,rO,aR,dQ,LNd,hrl,c1,c3,c4,L1,LLn,Ln,LSh,aS,aP];refine cPx (h1) (by simp) ?_;simp -dsimp[L1,LLn,Ln,LSh,aS,aP]
     rw[show ch.contains v=false by simpa using c5]at h1;by_cases c6:v∈ex
     ·rw[if_pos (.inr (.inr (.inr (.inr c6))))]at hP;rw[List.contains_iff_mem.2 c6]at h2;subst hP;refine sPx Tryz.func95 rfl rfl ?_;simp -dsimp[Tryz.f95,rO,aR,dQ,LNd,hrl,c1,c3,c4,L1,LLn,Ln,LSh,aS,aP];refine cPx (h1) (by simp) ?_;simp -dsimp[L1,LLn,Ln,LSh,aS,aP];refine cPx (h2) (by simp) ?_;simp -dsimp[L1,LLn,Ln,LSh,aS,aP]
     rw[show ex.contains v=false by simpa using c6]at h2;rw[if_neg (by rintro(h | h | h | h | h)<;>first | omega | exact h rfl | exact c5 h | exact c6 h)]at hP;have hwl:=(am ws 0 hvw).symm;have hwb:=hb.w v hvw;obtain⟨w,hw⟩:∃w,w=ws.getD v 0:=⟨_,rfl⟩;rw[←hw]at hwl hwb hP;have hbw:IntKind.i64.wrap (b-w)=b-w:=wrap64 (by omega) (by omega);refine sPx Tryz.func95 rfl rfl ?_;simp -dsimp[Tryz.f95,rO,aR,dQ,LNd,hrl,c1,c3,c4,L1,LLn,Ln,LSh,aS,aP];refine cPx (h1) (by simp) ?_;simp -dsimp[L1,LLn,Ln,LSh,aS,aP];refine cPx (h2) (by simp) ?_;simp -dsimp[L1,LLn,Ln,LSh,aS,aP];have i1:=ih r (ch++[v]) ex false fx (b-w) (by omega) (by simp;omega) (by omega) (by omega);obtain⟨p,hp⟩:∃p,p=cP ws es k (ch++[v]) ex (b-w) r:=⟨_,rfl⟩;rw[←hp]at i1 hP;have hpl:=oZ ws es k (ch++[v]) ex (b-w) r;rw[←hp]at hpl;simp only[aR,dQ,L1,LLn,Ln,LNd]at i1;have htk:uH r.length (r.map aS)=r.map aS:=rt (by simp)
     have k1:∀(H:List B) (kk:Nat),H[kk]?=some (.buf 3 1 (ch.map eN++[.int .i64 (v:Int)]) false)→aQ Tryz.prog (.fn 95 []) [.agg [.lst 1 f (ws.map aE),.lst 1 g (es.map (Ln false))],.agg [.buf kk 0 (ch.length+1) (ch.length+1),.lst 1 fx (ex.map eN),.int .i64 (b-w)],.lst 2 fl (r.map aS)] H fun r' H'=>r' = .int .i64 p∧H'=H:=fun H kk hk=>by
      refine callXA i1 rfl (fun i a a' h1 h2=>?_) (.int _ _)
      match i with
      | 0=>simp at h1 h2;subst h1;subst h2;exact .one _ _ (.pure _ (by simp))
      | 1 =>
       simp only[sk,sj,Option.some.injEq]at h1 h2;subst h1;subst h2;refine .agg _ _ rfl (by simp[V.one]) (fun i c d h3 h4=>?_)
       match i with
       | 0 =>
        simp only[sj,Option.some.injEq]at h3 h4;subst h3;subst h4;refine⟨_,dP hk (by simp) (by simp[or_imp,forall_and]),?_⟩;rw[sX];exact .refl _
       | 1=>simp at h3 h4;subst h3;subst h4;exact⟨_,.pure _ (by simp),.refl _⟩
       | 2=>simp at h3 h4;subst h3;subst h4;exact⟨_,.pure _ (by simp),.refl _⟩
       | n+3=>simp at h3
      | 2=>simp at h1 h2;subst h1;subst h2;exact .one _ _ (.pure _ (by simp))
      | n+3=>simp at h1
     have hpd:∀(j:Nat) (x:V),x∈vI j (r.map aS)→AM.Pure x:=fun j x hx=>by
      obtain⟨y,_,rfl⟩:=List.mem_map.1 (sh hx);exact encNd_pure y
     have k2:∀(j:Nat),p=j→∀(H:List B) (kk:Nat),H[kk]?=some (.buf 3 1 (ex.map eN++[.int .i64 (v:Int)]) false)→aQ Tryz.prog (.fn 95 []) [.agg [.lst 1 f (ws.map aE),.lst 1 g (es.map (Ln false))],.agg [.lst 1 fc (ch.map eN),.buf kk 0 (ex.length+1) (ex.length+1),.int .i64 b],.lst 2 fl (vI j (r.map aS))] H fun r' H'=>r' = .int .i64 (cP ws es k ch (ex++[v]) b (r.drop j))∧H'=H:=fun j hj H kk hk=>by
      have i2:=ih (r.drop j) ch (ex++[v]) fc false b (by rw[tL];omega) (by rw[tL];simp;omega) (by rw[tL];omega) (by omega);simp only[aR,dQ,L1,LLn,Ln,LNd]at i2;rw[List.map_drop]at i2;refine callXA i2 rfl (fun i a a' h1 h2=>?_) (.int _ _)
      match i with
      | 0=>simp at h1 h2;subst h1;subst h2;exact .one _ _ (.pure _ (by simp))
      | 1 =>
       simp only[sk,sj,Option.some.injEq]at h1 h2;subst h1;subst h2;refine .agg _ _ rfl (by simp[V.one]) (fun i c d h3 h4=>?_)
       match i with
       | 0=>simp at h3 h4;subst h3;subst h4;exact⟨_,.pure _ (by simp),.refl _⟩
       | 1 =>
        simp only[sk,sj,Option.some.injEq]at h3 h4;subst h3;subst h4;refine⟨_,dP hk (by simp) (by simp[or_imp,forall_and]),?_⟩;rw[sX];exact .refl _
       | 2=>simp at h3 h4;subst h3;subst h4;exact⟨_,.pure _ (by simp),.refl _⟩
       | n+3=>simp at h3
      | 2=>simp only[sk,sj,Option.some.injEq]at h1 h2;subst h1;subst h2;exact .one _ _ (.pure _ (.lst _ _ _ (hpd j)))
      | n+3=>simp at h1
     obtain⟨G,hG⟩:∃G:Nat→Int,G=fun j=>cP ws es k ch (ex++[v]) b (r.drop j):=⟨_,rfl⟩
     have hGle:∀j,-1≤G j∧G j≤r.length:=fun j=>by
      have:=oZ ws es k ch (ex++[v]) b (r.drop j);rw[tL]at this;rw[hG];exact⟨this.1,by have:=this.2;simp only;omega⟩
     have hGd:∀j,cP ws es k ch (ex++[v]) b (r.drop j)=G j:=fun j=>by rw[hG]
     simp only[hGd]at k2 hP;clear hG hGd;by_cases d1:ch=[]
     ·subst d1;refine aG (aW tok mixed [4,7] [(0,[1,2]),(5,[0]),(6,[0]),(8,[0,1]),(9,[0,1]),(10,[0,1]),(11,[0,1]),(12,[0,1]),(13,[0,1]),(14,[0,1]),(15,[0,1]),(16,[0,1]),(17,[0,1]),(19,[0,1]),(20,[0,1])] [(.int .i64 p,[])] (by kernel_rfl) fun C K hC hK=>?_);simp -implicitDefEqProofs [hvw,hwl,hbw,aE,eN,htk,L1,LLn,Ln,LSh,aS,aP];refine⟨hC _ _ _ _ (k1 _ _ rfl),hK _ _ ?_⟩;clear hC hK C K;by_cases hp0:p<0
      ·rw[if_pos hp0]at hP;subst hP;simp -dsimp[hp0,L1,LLn,Ln,LSh,aS,aP]
      ·rw[if_neg hp0]at hP;obtain⟨j,hj⟩:∃j:Nat,p=j:=⟨p.toNat,by omega⟩;have k3:=k2 j hj;rw[hj,sT]at hP;subst hj;obtain⟨p2,hp2⟩:∃p2,p2=G j:=⟨_,rfl⟩;have hpl2:=hGle j;rw[←hp2]at k3 hP hpl2
       have hjl:j≤r.length:=by omega
       have hw1:IntKind.i64.wrap (1+(j:Int))=(j:Int)+1:=by rw[wrap64 (by omega) (by omega)];omega
       simp -dsimp[hp0,L1,LLn,Ln,LSh,aS,aP];by_cases d2:ex=[]
       ·subst d2;refine aG (aW tok mixed [6,9] [(0,[1,2]),(1,[1,2]),(2,[1,2]),(7,[0]),(8,[0]),(10,[0,1]),(11,[0,1]),(13,[0,1]),(14,[0,1]),(15,[0,1]),(16,[0,1])] [(.int .i64 p2,[])] (by kernel_rfl) fun C K hC hK=>?_);simp -implicitDefEqProofs [hw1,htk,eN,hjl,show(0:Int)≤(j:Int)+1 by omega,L1,LLn,Ln,LSh,aS,aP];refine⟨hC _ _ _ _ (k3 _ _ rfl),hK _ _ ?_⟩;clear hC hK C K;by_cases hq0:p2<0
        ·rw[if_pos hq0]at hP;subst hP;simp -dsimp[hq0,L1,LLn,Ln,LSh,aS,aP]
        ·rw[if_neg hq0]at hP;have hw2:IntKind.i64.wrap (1+(j:Int))=1+(j:Int):=wrap64 (by omega) (by omega);have hw3:IntKind.i64.wrap (1+(j:Int)+p2)=1+(j:Int)+p2:=wrap64 (by omega) (by omega);subst hP;simp -dsimp[hq0,hw2,hw3,L1,LLn,Ln,LSh,aS,aP]
       ·refine aG (aW tok mixed [6,9] [(0,[1,2]),(1,[1,2]),(2,[1,2]),(7,[0]),(8,[0]),(10,[0,1]),(11,[0,1]),(13,[0,1]),(14,[0,1]),(15,[0,1]),(16,[0,1])] [(.int .i64 p2,[])] (by kernel_rfl) fun C K hC hK=>?_);simp -implicitDefEqProofs [d2,hw1,htk,eN,hjl,show(0:Int)≤(j:Int)+1 by omega,show ex.length≤9223372036854775807 by omega,show ex.length*8≤140737488355328 by omega,show ex.length+1≤9223372036854775807 by omega,show(ex.length+1)*8≤140737488355328 by omega,L1,LLn,Ln,LSh,aS,aP];refine⟨hC _ _ _ _ (k3 _ _ rfl),hK _ _ ?_⟩;clear hC hK C K;by_cases hq0:p2<0
        ·rw[if_pos hq0]at hP;subst hP;simp -dsimp[hq0,L1,LLn,Ln,LSh,aS,aP]
        ·rw[if_neg hq0]at hP;have hw2:IntKind.i64.wrap (1+(j:Int))=1+(j:Int):=wrap64 (by omega) (by omega);have hw3:IntKind.i64.wrap (1+(j:Int)+p2)=1+(j:Int)+p2:=wrap64 (by omega) (by omega);subst hP;simp -dsimp[hq0,hw2,hw3,L1,LLn,Ln,LSh,aS,aP]
     ·refine aG (aW tok mixed [4,7] [(0,[1,2]),(5,[0]),(6,[0]),(8,[0,1]),(9,[0,1]),(10,[0,1]),(11,[0,1]),(12,[0,1]),(13,[0,1]),(14,[0,1]),(15,[0,1]),(16,[0,1]),(17,[0,1]),(19,[0,1]),(20,[0,1])] [(.int .i64 p,[])] (by kernel_rfl) fun C K hC hK=>?_);simp -implicitDefEqProofs [d1,hvw,hwl,hbw,aE,eN,htk,show ch.length≤9223372036854775807 by omega,show ch.length*8≤140737488355328 by omega,show ch.length+1≤9223372036854775807 by omega,show(ch.length+1)*8≤140737488355328 by omega,L1,LLn,Ln,LSh,aS,aP];refine⟨hC _ _ _ _ (k1 _ _ rfl),hK _ _ ?_⟩;clear hC hK C K;by_cases hp0:p<0
      ·rw[if_pos hp0]at hP;subst hP;simp -dsimp[hp0,L1,LLn,Ln,LSh,aS,aP]
      ·rw[if_neg hp0]at hP;obtain⟨j,hj⟩:∃j:Nat,p=j:=⟨p.toNat,by omega⟩;have k3:=k2 j hj;rw[hj,sT]at hP;subst hj;obtain⟨p2,hp2⟩:∃p2,p2=G j:=⟨_,rfl⟩;have hpl2:=hGle j;rw[←hp2]at k3 hP hpl2
       have hjl:j≤r.length:=by omega
       have hw1:IntKind.i64.wrap (1+(j:Int))=(j:Int)+1:=by rw[wrap64 (by omega) (by omega)];omega
       simp -dsimp[hp0,L1,LLn,Ln,LSh,aS,aP];by_cases d2:ex=[]
       ·subst d2;refine aG (aW tok mixed [6,9] [(0,[1,2]),(1,[1,2]),(2,[1,2]),(7,[0]),(8,[0]),(10,[0,1]),(11,[0,1]),(13,[0,1]),(14,[0,1]),(15,[0,1]),(16,[0,1])] [(.int .i64 p2,[])] (by kernel_rfl) fun C K hC hK=>?_);simp -implicitDefEqProofs [hw1,htk,eN,hjl,show(0:Int)≤(j:Int)+1 by omega,L1,LLn,Ln,LSh,aS,aP];refine⟨hC _ _ _ _ (k3 _ _ rfl),hK _ _ ?_⟩;clear hC hK C K;by_cases hq0:p2<0
        ·rw[if_pos hq0]at hP;subst hP;simp -dsimp[hq0,L1,LLn,Ln,LSh,aS,aP]
        ·rw[if_neg hq0]at hP;have hw2:IntKind.i64.wrap (1+(j:Int))=1+(j:Int):=wrap64 (by omega) (by omega);have hw3:IntKind.i64.wrap (1+(j:Int)+p2)=1+(j:Int)+p2:=wrap64 (by omega) (by omega);subst hP;simp -dsimp[hq0,hw2,hw3,L1,LLn,Ln,LSh,aS,aP]
       ·refine aG (aW tok mixed [6,9] [(0,[1,2]),(1,[1,2]),(2,[1,2]),(7,[0]),(8,[0]),(10,[0,1]),(11,[0,1]),(13,[0,1]),(14,[0,1]),(15,[0,1]),(16,[0,1])] [(.int .i64 p2,[])] (by kernel_rfl) fun C K hC hK=>?_);simp -implicitDefEqProofs [d2,hw1,htk,eN,hjl,show(0:Int)≤(j:Int)+1 by omega,show ex.length≤9223372036854775807 by omega,show ex.length*8≤140737488355328 by omega,show ex.length+1≤9223372036854775807 by omega,show(ex.length+1)*8≤140737488355328 by omega,L1,LLn,Ln,LSh,aS,aP];refine⟨hC _ _ _ _ (k3 _ _ rfl),hK _ _ ?_⟩;clear hC hK C K;by_cases hq0:p2<0
        ·rw[if_pos hq0]at hP;subst hP;simp -dsimp[hq0,L1,LLn,Ln,LSh,aS,aP]
        ·rw[if_neg hq0]at hP;have hw2:IntKind.i64.wrap (1+(j:Int))=1+(j:Int):=wrap64 (by omega) (by omega);have hw3:IntKind.i64.wrap (1+(j:Int)+p2)=1+(j:Int)+p2:=wrap64 (by omega) (by omega);subst hP;simp -dsimp[hq0,hw2,hw3,L1,LLn,Ln,LSh,aS,aP]
    ·rw[if_pos (.inl c2)]at hP;subst hP;have hyl:=List.length_pos_iff.2 c2;refine sPx Tryz.func95 rfl rfl ?_;simp -dsimp[Tryz.f95,rO,aR,dQ,LNd,hrl,c1,c2,hyl,L1,LLn,Ln,LSh,aS,aP,L1,LLn,Ln,LSh,aS,aP]
end
end Go.Proofs.YtjogkbekekdkjaaGreatDoor
