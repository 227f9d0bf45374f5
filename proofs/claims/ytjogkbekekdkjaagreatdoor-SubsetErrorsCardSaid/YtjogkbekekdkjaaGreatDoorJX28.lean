/- JX28: own texts of this seat, joined and shortened by pack4.py: H15, H16, H17, H18, H19. -/
import Derived.Test.YtjogkbekekdkjaaGreatDoorJX27
set_option linter.unusedVariables false
set_option linter.unusedSimpArgs false
set_option maxRecDepth 100000
set_option maxHeartbeats 64000000
open Int renaming toNat_natCast→sT
open List renaming replicate→rO,drop_eq_getElem_cons→rP,getElem_mem→rQ,not_mem_nil→rS,getElem?_eq_getElem→rT,mem_cons→rU,getElem?_append_left→rg,range→rh,length_append→ri,append_nil→rj,getElem?_append_right→rq,take_of_length_le→rt,getElem?_set_ne→ry,length_filter_le→rz,getElem?_set_self→sA,length_cons→sB,mem_singleton→sC,getElem?_map→sQ,set_append_right→sS,all_cons→sZ,length_set→se,range_succ→si,mem_append→sx,set_set→tC,map_cons→tF,take_append_drop→tG,length_drop→tL,getD→tO,mem_or_eq_of_mem_set→tT,filter_append→tW,pairwise_append→ti,map_nil→tt,set_getElem_self→tw,reverse_reverse→uF,filter_cons→uW
open Nat renaming le_refl→rd,sub_self→tg
open Option renaming map_some→sU
namespace Go.Proofs.YtjogkbekekdkjaaGreatDoor
section
open Go Go.AM
section
def bcl(fl:Bool)(b:Bst):B:=.cells [.lst 1 fl (b.l.map eN),.int .i64 b.w]
theorem bcl_rb(N:Nat)(fl:Bool)(b:Bst):rbB N (bcl fl b):=by
 intro c hc;simp only[rU,rS,or_false]at hc
 rcases hc with rfl | rfl
 ·exact bq (Ln_pure fl b.l) rfl
 ·trivial
section
variable (H:List B) (k0 km kb:Nat) (f g:Bool) (ws:List Int) (es:List (List Nat))
def HS(lf:Int)(m:List Nat)(c:B):List B:=((H.set k0 (scl f g ws es km ws.length lf)).set km (.buf 3 1 (nuL m) false)).set kb c
end
structure BOk (H:List B) (k0 km kb:Nat):Prop where
 l0:k0<H.length
 lm:km<H.length
 lb:kb<H.length
 n0:km≠k0
 n1:kb≠k0
 n2:kb≠km
 rb:∀bl∈H,rbB H.length bl
section
variable {H:List B} {k0 km kb:Nat} {f g:Bool} {ws:List Int} {es:List (List Nat)} {lf:Int} {m:List Nat} {c:B}
theorem dI:(HS H k0 km kb f g ws es lf m c).length=H.length:=by simp[HS]
theorem BOk.at0(o:BOk H k0 km kb):(HS H k0 km kb f g ws es lf m c)[k0]?=some (.cells [L1 f ws,LLn g es,.buf km 0 ws.length ws.length,.int .i64 lf]):=by
 unfold HS;rw[ry o.n1,ry o.n0,sA o.l0];rfl
theorem BOk.atm(o:BOk H k0 km kb):(HS H k0 km kb f g ws es lf m c)[km]?=some (.buf 3 1 (nuL m) false):=by
 unfold HS;rw[ry o.n2,sA (by simp;exact o.lm)]
theorem BOk.atb(o:BOk H k0 km kb):(HS H k0 km kb f g ws es lf m c)[kb]?=some c:=by
 unfold HS;rw[sA (by simp;exact o.lb)]
theorem BOk.set0(o:BOk H k0 km kb)(lf':Int):(HS H k0 km kb f g ws es lf m c).set k0 (scl f g ws es km ws.length lf')=HS H k0 km kb f g ws es lf' m c:=by
 unfold HS;rw[List.set_comm _ _ o.n1,List.set_comm _ _ o.n0,tC]
theorem BOk.setm(o:BOk H k0 km kb)(m':List Nat):(HS H k0 km kb f g ws es lf m c).set km (.buf 3 1 (nuL m') false)=HS H k0 km kb f g ws es lf m' c:=by
 unfold HS;rw[List.set_comm _ _ o.n2,tC]
theorem BOk.setb(o:BOk H k0 km kb)(c':B):(HS H k0 km kb f g ws es lf m c).set kb c'=HS H k0 km kb f g ws es lf m c':=by
 unfold HS;rw[tC]
theorem BOk.rbs(o:BOk H k0 km kb)(hc:rbB H.length c):∀bl∈HS H k0 km kb f g ws es lf m c,rbB (HS H k0 km kb f g ws es lf m c).length bl:=by
 have h1:=fK o.rb (k:=k0) (b:=scl f g ws es km ws.length lf) (scl_rb f g ws es ws.length lf o.lm);have h2:=fK h1 (k:=km) (b:=.buf 3 1 (nuL m) false) ((rbB_buf1 (eL m)).2 trivial);exact fK h2 (by simpa using hc)
theorem BOk.sat(o:BOk H k0 km kb)(hc:rbB H.length c)(hm:m.length=ws.length):SAt (HS H k0 km kb f g ws es lf m c) k0 km f g ws es ws.length m lf :=
 ⟨o.at0,o.atm,o.rbs hc,hm,rfl,o.n0⟩
theorem mJ{ws:List Int}{es:List (List Nat)}{P:Int×Bst} : ∀(k:Nat) (m:List Nat) (lf:Int) (b:Bst) (w:Int),nN ws es k m lf b w=some P→P.1≤lf
 | 0,_,_,_,_,h=>by simp[nN]at h
 | k+1,m,lf,b,w,h=>by
  rw[nN]at h;split at h
  ·cases h
  ·split at h
   ·cases h;simp only;omega
   ·split at h
    ·cases h;simp only;omega
    ·split at h
     ·cases h;simp only;omega
     ·split at h
      ·cases h
      ·rename_i p hp;have h1:=mJ (P:=p) k _ _ _ _ hp;have h2:=mJ (P:=P) k _ _ _ _ h;omega
theorem chosen_take(m:List Nat)(i:Nat)(h:i<m.length):(rh (i+1)).filter (fun v=>decide (m.getD v 0=1))=(rh i).filter (fun v=>decide (m.getD v 0=1))++if m.getD i 0=1 then [i] else []:=by
 rw[si,tW];congr 1;by_cases hq:m.getD i 0=1
 ·rw[if_pos hq,uW,if_pos (decide_eq_true hq)];rfl
 ·rw[if_neg hq,uW,if_neg (by rw[decide_eq_false hq];simp)];rfl
def QB(H:List B)(k0 km kb:Nat)(f g:Bool)(ws:List Int)(es:List (List Nat))(lf:Int)(m:List Nat)(b:Bst)(H':List B):Prop:=∃fl,H'=HS H k0 km kb f g ws es lf m (bcl fl b)
def QT(H:List B)(k0 km kb:Nat)(f g:Bool)(ws:List Int)(es:List (List Nat))(lf:Int)(m:List Nat)(b:Bst)(H':List B):Prop:=∃fl G,H'=HS H k0 km kb f g ws es lf m (bcl fl b)++G
theorem min_cut{k:FuncId}{args:List V}{H0:List B}{b:Bst}(o:BOk H k0 km kb)(h0:H0.length≤H.length)(hq:av Tryz.prog k args H0 fun r H'=>r = .bool true∧QT H k0 km kb f g ws es lf m b H'):av Tryz.prog k args H0 fun r H'=>r = .bool true∧QB H k0 km kb f g ws es lf m b H':=by
 refine(ke (σ:=Bool) (ok:=fun _=>True) (rf:=fun _=>.bool true) (Hf:=fun x=>HS H k0 km kb f g ws es lf m (bcl x b)) (hq.mono fun r H' ⟨h1,fl,G,h2⟩=>⟨fl,trivial,h1,G,h2⟩) (fun x _=>by rw[dI];exact h0) (fun x _=>by simp[rb,rb1]) (fun x _=>o.rbs (bcl_rb _ _ _))).mono ?_;rintro r H' ⟨x,_,h1,h2⟩;exact⟨h1,x,h2⟩
def chT(m:List Nat)(i:Nat):List Nat:=(rh i).filter fun v=>decide (m.getD v 0=1)
theorem chT_succ(m:List Nat)(i:Nat)(h:i<m.length):chT m (i+1)=chT m i++if m.getD i 0=1 then [i] else []:=chosen_take m i h
theorem chT_len(m:List Nat)(i:Nat):(chT m i).length≤i:=by
 have:=rz (fun v=>decide (m.getD v 0=1)) (rh i);simpa[chT] using this
theorem HS_append(c:B)(X:B)(k:Nat)(Y:B)(h:k<H.length):(HS H k0 km kb f g ws es lf m c++[X]).set k Y=(HS H k0 km kb f g ws es lf m c).set k Y++[X]:=by
 rw[List.set_append_left _ _ (by rw[dI];exact h)]
theorem minimum_h(o:BOk H k0 km kb)(hb:HsB ws es)(k:Nat):∀(m:List Nat) (lf:Int) (b:Bst) (fl:Bool) (w:Int) (P:Int×Bst),m.length=ws.length→nN ws es k m lf b w=some P→-9000000000000000000≤P.1→lf≤9000000000000000000→0≤w→w≤4000000000000000000-1000000*(k:Int)→
  av Tryz.prog 88 [.ptr k0 0,.ptr kb 0,.int .i64 w] (HS H k0 km kb f g ws es lf m (bcl fl b)) fun r H'=>r = .bool true∧QB H k0 km kb f g ws es P.1 m P.2 H':=by
 induction k with
 | zero=>intro m lf b fl w P hm h;simp[nN]at h
 | succ k ih =>
  intro m lf b fl w P hm h hP hlf hw0 hw1;have hle:=mJ _ _ _ _ _ h;rw[nN]at h
  have hnl:¬lf-1<0:=by
   intro hq;rw[if_pos hq]at h;cases h
  rw[if_neg hnl]at h;refine min_cut o (by rw[dI];exact rd _) ?_;have hcr:=bcl_rb H.length fl b;have s0:=o.sat (f:=f) (g:=g) (ws:=ws) (es:=es) (lf:=lf) (m:=m) hcr hm;have s1:=o.sat (f:=f) (g:=g) (ws:=ws) (es:=es) (lf:=lf-1) (m:=m) hcr hm;have c1:=spend_h s0 (by omega) hlf;rw[o.set0]at c1;rw[decide_eq_true (show 0≤lf-1 by omega)]at c1
  have hes:es.length≤1000000:=by have:=hb.ne;omega
  have hel:∀e∈es,e.length≤1000000:=fun e he=>by have:=hb.ed.len e he;have:=hb.n;omega
  have c2:=dead_h s1 hb.ed hes hel;have c3:=nJ s1 hb;have c4:=branch_h s1 hb;have hpk:=fN (m:=m) hb.ed es 0 ws (by simp) rfl (fun v hv _=>by have:=(hb.w v hv).1;omega);obtain⟨_,_,_,_,p5,p6⟩:=hpk;have he2:=hb.ne;have gb:(HS H k0 km kb f g ws es (lf-1) m (bcl fl b))[kb]?=some (.cells [.lst 1 fl (b.l.map eN),.int .i64 b.w]):=o.atb;have g0:=s1.h0;have gm:=s1.hm;have hml:=bE m;obtain⟨D,hD⟩:∃D,D=fG m es:=⟨_,rfl⟩;rw[←hD]at c2 h
  change 0≤(bw ws es m).2 at p6
  change (bw ws es m).2≤_ at p5
  obtain⟨S,hS⟩:∃S,S=bw ws es m:=⟨_,rfl⟩;rw[←hS]at c3 h p5 p6;have hbr:=mt hb.ed m;obtain⟨br,hbre⟩:∃br,br=brS es m:=⟨_,rfl⟩;rw[←hbre]at c4 h hbr;have hw2:IntKind.i64.wrap (w+S.2)=w+S.2:=wrap64 (by omega) (by omega);refine aF tok Tryz.func88 rfl rfl ?_;refine wx ?_;simp -dsimp[Tryz.f88,rO];refine bD c1 ?_;rintro _ _ ⟨rfl,rfl⟩;simp -dsimp[];refine bD c2 ?_;rintro _ _ ⟨rfl,rfl⟩
  cases D with
  | true =>
   rw[if_pos rfl]at h;cases h;simp -dsimp[];exact⟨fl,[],by rw[rj]⟩
  | false =>
   rw[if_neg (by simp)]at h;simp -dsimp[];refine bD c3 ?_;rintro _ _ ⟨rfl,rfl⟩;by_cases hq:b.w≤w+S.2
   ·rw[if_pos hq]at h;cases h;simp -dsimp[gb,hw2,hq];exact⟨fl,[],by rw[rj]⟩
   ·rw[if_neg hq]at h;simp -dsimp[gb,hw2,hq];refine bD c4 ?_;rintro _ _ ⟨rfl,rfl⟩;by_cases hbn:br<0
    ·rw[if_pos hbn]at h;cases h;have hs1:(HS H k0 km kb f g ws es (lf-1) m (bcl fl b)).set kb (.cells [.nilS,.int .i64 b.w])=HS H k0 km kb f g ws es (lf-1) m (.cells [.nilS,.int .i64 b.w]):=o.setb _;have gb1:(HS H k0 km kb f g ws es (lf-1) m (.cells [.nilS,.int .i64 b.w]))[kb]?=some (.cells [.nilS,.int .i64 b.w]):=o.atb;have hs2:(HS H k0 km kb f g ws es (lf-1) m (.cells [.nilS,.int .i64 b.w])).set kb (.cells [.nilS,.int .i64 w])=HS H k0 km kb f g ws es (lf-1) m (.cells [.nilS,.int .i64 w]):=o.setb _;have gb2:(HS H k0 km kb f g ws es (lf-1) m (.cells [.nilS,.int .i64 w]))[kb]?=some (.cells [.nilS,.int .i64 w]):=o.atb;have g02:=o.at0 (f:=f) (g:=g) (ws:=ws) (es:=es) (lf:=lf-1) (m:=m) (c:=.cells [.nilS,.int .i64 w]);have gm2:=o.atm (f:=f) (g:=g) (ws:=ws) (es:=es) (lf:=lf-1) (m:=m) (c:=.cells [.nilS,.int .i64 w]);have hn2:=hb.n;simp -dsimp[hbn,gb,hs1,gb1,hs2,g02,gm2,hml,hm];refine aG (eS 3 1 [] kb [0] (cs:=[.nilS,.int .i64 w]) gb2 (by simp) (by simp) (W_loopM 65 0x1ffff800000000c00 (by simp[mB]<;>rfl) (σ:=Nat) (fun i=>i≤ws.length) (fun i=>ws.length-i) (fun i=>[(47,.int .i64 i)]) (fun i=>HS H k0 km kb f g ws es (lf-1) m (.cells [.buf H.length 0 (chT m i).length (chT m i).length,.int .i64 w])++[.buf 3 1 (nuL (chT m i)) false]) 0 (by omega) (by simp) (by simp[o.setb,dI,chT,nuL]) (by simp[dI]) ?_));intro i hi N Q hN hQ
     have kN:(HS H k0 km kb f g ws es (lf-1) m (.cells [.buf H.length 0 (chT m i).length (chT m i).length,.int .i64 w])++[B.buf 3 1 (nuL (chT m i)) false])[H.length]?=some (B.buf 3 1 (nuL (chT m i)) false):=by
      rw[rq (by rw[dI];exact rd _),dI];simp
     have kb1:(HS H k0 km kb f g ws es (lf-1) m (.cells [.buf H.length 0 (chT m i).length (chT m i).length,.int .i64 w])++[B.buf 3 1 (nuL (chT m i)) false])[kb]?=some (.cells [.buf H.length 0 (chT m i).length (chT m i).length,.int .i64 w]):=by
      rw[rg (by rw[dI];exact o.lb)];exact o.atb
     have km1:(HS H k0 km kb f g ws es (lf-1) m (.cells [.buf H.length 0 (chT m i).length (chT m i).length,.int .i64 w])++[B.buf 3 1 (nuL (chT m i)) false])[km]?=some (.buf 3 1 (nuL m) false):=by
      rw[rg (by rw[dI];exact o.lm)];exact o.atm
     have hcl:=chT_len m i;by_cases hbi:i<ws.length
     ·have hat:=fun h=>bR (m:=m) (x:=i) h
      have hsu:=chT_succ m i (by omega);obtain⟨mc,hmc⟩:∃mc,mc=m.getD i 0:=⟨_,rfl⟩;rw[←hmc]at hat hsu
      have srb:∀(j:Nat) (l:List Nat),∀bl∈HS H k0 km kb f g ws es (lf-1) m (.cells [.buf H.length 0 j j,.int .i64 w])++[B.buf 3 1 (nuL l) false],rbB (HS H k0 km kb f g ws es (lf-1) m (.cells [.buf H.length 0 j j,.int .i64 w])++[B.buf 3 1 (nuL l) false]).length bl:=fun j l=>by
       intro bl hbl;have h1:=fK o.rb (k:=k0) (b:=scl f g ws es km ws.length (lf-1)) (scl_rb f g ws es ws.length (lf-1) o.lm);have h2:=fK h1 (k:=km) (b:=.buf 3 1 (nuL m) false) ((rbB_buf1 (eL m)).2 trivial);rw[ri,dI]
       rcases List.mem_append.1 hbl with h3 | h3
       ·rcases tT h3 with h4 | rfl
        ·exact rbBM (by simp) (h2 bl h4)
        ·simp[rbB,rb,rb1]
       ·rcases List.mem_cons.1 h3 with rfl | h3
        ·exact(rbB_buf1 (eL _)).2 trivial
        ·cases h3
      by_cases hq1:mc=1
      ·subst hq1;rw[if_pos rfl]at hsu
       have hna:nuL (chT m i)++[.int .i64 (i:Int)]=nuL (chT m (i+1)):=by rw[hsu];simp[nuL,eN]
       have hln:(chT m (i+1)).length=(chT m i).length+1:=by rw[hsu];simp
       have hnl1:=bE (chT m i)
       have hsN:(HS H k0 km kb f g ws es (lf-1) m (.cells [.buf H.length 0 (chT m i).length (chT m i).length,.int .i64 w])++[B.buf 3 1 (nuL (chT m i)) false]).set H.length (B.buf 3 1 (nuL (chT m (i+1))) false)=HS H k0 km kb f g ws es (lf-1) m (.cells [.buf H.length 0 (chT m i).length (chT m i).length,.int .i64 w])++[B.buf 3 1 (nuL (chT m (i+1))) false]:=by
        rw[sS _ _ (by rw[dI];exact rd _),dI,tg];rfl
       have hsK:(HS H k0 km kb f g ws es (lf-1) m (.cells [.buf H.length 0 (chT m i).length (chT m i).length,.int .i64 w])++[B.buf 3 1 (nuL (chT m (i+1))) false]).set kb (.cells [.buf H.length 0 ((chT m i).length+1) ((chT m i).length+1),.int .i64 w])=HS H k0 km kb f g ws es (lf-1) m (.cells [.buf H.length 0 ((chT m i).length+1) ((chT m i).length+1),.int .i64 w])++[B.buf 3 1 (nuL (chT m (i+1))) false]:=by
        rw[HS_append _ _ _ _ o.lb,o.setb]
       have kb2:(HS H k0 km kb f g ws es (lf-1) m (.cells [.buf H.length 0 (chT m i).length (chT m i).length,.int .i64 w])++[B.buf 3 1 (nuL (chT m (i+1))) false])[kb]?=some (.cells [.buf H.length 0 (chT m i).length (chT m i).length,.int .i64 w]):=by
        rw[rg (by rw[dI];exact o.lb)];exact o.atb
       refine wx ?_;simp -dsimp[hbi,km1,hat,hml,hm,kb1,kN,hna,hnl1,hsN,hsK,kb2,aH i (by omega),show(chT m i).length≤9223372036854775806 by omega,show((chT m i).length+1)*8≤140737488355328 by omega];refine hN (i+1) _ _ (by omega) (by omega) (by simp[hln]) ⟨[],by simp[hln]⟩ ?_ (by simp only[hln];exact srb _ _);have h1:=o.l0;have h2:=o.lm;have h3:=o.lb;simp[dI,LSh];omega
      ·rw[if_neg hq1,rj]at hsu;refine wx ?_;simp -dsimp[hbi,km1,hat,hml,hm,hq1,show ¬((mc:Int)=1) by omega,aH i (by omega)];refine hN (i+1) _ _ (by omega) (by omega) (by simp[hsu]) ⟨[],by simp[hsu]⟩ ?_ (by simp only[hsu];exact srb _ _);have h1:=o.l0;have h2:=o.lm;have h3:=o.lb;simp[dI,LSh];omega
     ·obtain rfl:i=ws.length:=by omega
      have hnu:=bE (chT m ws.length);refine eT H.length [] kb [0] kN kb1 (by simp) (by simp[hnu]) ?_;refine wx ?_;simp -dsimp[hbi];refine hQ _ _ _ ?_;simp -dsimp[];refine⟨false,[B.buf 3 1 (nuL (chT m ws.length)) true],?_⟩;rw[sS _ _ (by rw[dI];exact rd _),dI,tg,show [B.buf 3 1 (nuL (chT m ws.length)) false].set 0 (B.buf 3 1 (nuL (chT m ws.length)) true)=[B.buf 3 1 (nuL (chT m ws.length)) true] from rfl,HS_append _ _ _ _ o.lb,o.setb];unfold bcl chosenL;rw[hm];rfl
    ·rw[if_neg hbn]at h
     rcases hbr with⟨hbr,_⟩ | ⟨hv1,hv2,hv3⟩
     ·exact absurd hbr hbn
     obtain⟨v,rfl⟩:∃v:Nat,br=v:=⟨br.toNat,by omega⟩;rw[sT]at hv1 hv3 h;have hwl:=(am ws 0 hv1).symm;have hwb:=hb.w v hv1;obtain⟨wv,hwv⟩:∃wv,wv=ws.getD v 0:=⟨_,rfl⟩;rw[←hwv]at hwl hwb h;have hww:IntKind.i64.wrap (w+wv)=w+wv:=wrap64 (by omega) (by omega)
     have hm0:m.set v 0=m:=by
      have:m[v]'(by omega)=0:=by rw[←am m 0 (by omega)];exact hv3
      conv=>rhs;rw[←tw (show v<m.length by omega)]
      rw[this]
     have hat:=fun h=>bR (m:=m) (x:=v) h
     rw[hv3]at hat
     have hat1:=fun h=>bR (m:=m.set v 1) (x:=v) h
     have hat2:=fun h=>bR (m:=m.set v 2) (x:=v) h
     have nl1:=bE (m.set v 1);have nl2:=bE (m.set v 2);rw[se]at nl1 nl2;have hst1:(nuL m).set v (.int .i64 1)=nuL (m.set v 1):=dA m v 1;have hst2:(nuL (m.set v 1)).set v (.int .i64 2)=nuL (m.set v 2):=(dA (m.set v 1) v 2).trans (by rw[tC]);have hst3:(nuL (m.set v 2)).set v (.int .i64 0)=nuL m:=(dA (m.set v 2) v 0).trans (by rw[tC,hm0]);have k1:=o.setm (f:=f) (g:=g) (ws:=ws) (es:=es) (lf:=lf-1) (m:=m) (c:=bcl fl b) (m.set v 1);have k10:=o.at0 (f:=f) (g:=g) (ws:=ws) (es:=es) (lf:=lf-1) (m:=m.set v 1) (c:=bcl fl b)
     cases hp:nN ws es k (m.set v 1) (lf-1) b (w+wv) with
     | none=>rw[hp]at h;cases h
     | some p =>
      rw[hp]at h;simp only at h;have l1:=mJ _ _ _ _ _ hp;have l2:=mJ _ _ _ _ _ h;have i1:=ih (m.set v 1) (lf-1) b fl (w+wv) p (by simp[hm]) hp (by omega) (by omega) (by omega) (by omega);simp -dsimp[hbn,g0,gm,hat,hml,hm,hv1,hst1,k1,k10,hwl,hww,L1,aE];refine bD i1 ?_;rintro _ _ ⟨rfl,fl1,rfl⟩;have j0:=o.at0 (f:=f) (g:=g) (ws:=ws) (es:=es) (lf:=p.1) (m:=m.set v 1) (c:=bcl fl1 p.2);have jm:=o.atm (f:=f) (g:=g) (ws:=ws) (es:=es) (lf:=p.1) (m:=m.set v 1) (c:=bcl fl1 p.2);have js:=o.setm (f:=f) (g:=g) (ws:=ws) (es:=es) (lf:=p.1) (m:=m.set v 1) (c:=bcl fl1 p.2) (m.set v 2);have i2:=ih (m.set v 2) p.1 p.2 fl1 w P (by simp[hm]) h hP (by omega) hw0 (by omega);simp -dsimp[j0,jm,hat1,nl1,hm,hv1,hst2,js];refine bD i2 ?_;rintro _ _ ⟨rfl,fl2,rfl⟩;have n0:=o.at0 (f:=f) (g:=g) (ws:=ws) (es:=es) (lf:=P.1) (m:=m.set v 2) (c:=bcl fl2 P.2);have nm:=o.atm (f:=f) (g:=g) (ws:=ws) (es:=es) (lf:=P.1) (m:=m.set v 2) (c:=bcl fl2 P.2);have ns:=o.setm (f:=f) (g:=g) (ws:=ws) (es:=es) (lf:=P.1) (m:=m.set v 2) (c:=bcl fl2 P.2) m;simp -dsimp[n0,nm,hat2,nl2,hm,hv1,hst3,ns];exact⟨fl2,[],by rw[rj]⟩
end
end
section
def shV:List Shr→V
 | []=>.nilS
 | x::l=>.lst 2 false (aP x::l.map aP)
def iJ(x:Nde):V:=.agg [.int .i64 x.v,shV x.l]
@[simp] theorem shV_pure (l:List Shr):AM.Pure (shV l):=by cases l<;>simp[shV]
theorem shV_one(l:List Shr):(shV l).one=true:=by cases l<;>rfl
@[simp] theorem encNp_pure (x:Nde):AM.Pure (iJ x):=by
 unfold iJ;simp[shV_one]
theorem encNp_ok(x:Nde):AM.Pure (iJ x)∧dV (iJ x)=true∧(iJ x).cells.length=2:=by
 refine⟨encNp_pure x,?_,rfl⟩;show([V.int .i64 x.v,shV x.l]:List V).all V.one=true;rw[sZ,sZ,shV_one];rfl
theorem kY(l:List Nde):∀x∈l.map iJ,AM.Pure x∧dV x=true∧x.cells.length=2:=fun x hx=>by
 obtain⟨y,_,rfl⟩:=List.mem_map.1 hx;exact encNp_ok y
def PR(l:List Nde)(r:V):Prop:=∃fl,r = .tup [.lst 2 fl (l.map iJ),.int .i64 0]
section
variable {H:List B} {k0 km kb:Nat} {f g:Bool} {ws:List Int} {es:List (List Nat)} {lf:Int} {m:List Nat} {c:B}
def QP(H:List B)(k0 km kb:Nat)(f g:Bool)(ws:List Int)(es:List (List Nat))(lf:Int)(m:List Nat)(c:B)(H':List B):Prop:=∃G,H'=HS H k0 km kb f g ws es lf m c++G
theorem prv_cut{k:FuncId}{args:List V}{H0:List B}{l:List Nde}(o:BOk H k0 km kb)(hc:rbB H.length c)(h0:H0.length≤H.length)(hq:av Tryz.prog k args H0 fun r H'=>PR l r∧QP H k0 km kb f g ws es lf m c H'):av Tryz.prog k args H0 fun r H'=>PR l r∧H'=HS H k0 km kb f g ws es lf m c:=by
 refine(ke (σ:=Bool) (ok:=fun _=>True) (rf:=fun x=>.tup [.lst 2 x (l.map iJ),.int .i64 0]) (Hf:=fun _=>HS H k0 km kb f g ws es lf m c) (hq.mono fun r H' ⟨⟨fl,h1⟩,G,h2⟩=>⟨fl,trivial,h1,G,h2⟩) (fun x _=>by rw[dI];exact h0) (fun x _=>?_) (fun x _=>o.rbs hc)).mono ?_
 ·intro y hy;simp only[rU,rS,or_false]at hy
  rcases hy with rfl | rfl
  ·intro z hz;exact(kY l z hz).1
  ·trivial
 ·rintro r H' ⟨x,_,h1,h2⟩;exact⟨⟨x,h1⟩,h2⟩
theorem lx{ws:List Int}{es:List (List Nat)}{P:List Nde×Int} : ∀(k:Nat) (m:List Nat) (lf b:Int),gh ws es k m lf b=some P→P.2≤lf
 | 0,_,_,_,h=>by simp[gh]at h
 | k+1,m,lf,b,h=>by
  rw[gh]at h;split at h
  ·cases h
  ·split at h
   ·cases h;simp only;omega
   ·split at h
    ·cases h;simp only;omega
    ·split at h
     ·cases h
     ·split at h
      ·cases h
      ·rename_i p hp;split at h
       ·cases h
       ·rename_i q hq;have h1:=lx (P:=p) k _ _ _ hp;have h2:=lx (P:=q) k _ _ _ hq;cases h;simp only;omega
theorem prove_h(o:BOk H k0 km kb)(hc:rbB H.length c)(hb:HsB ws es)(k:Nat):∀(m:List Nat) (lf b:Int) (P:List Nde×Int),m.length=ws.length→gh ws es k m lf b=some P→-9000000000000000000≤P.2→lf≤9000000000000000000→b≤4000000000000000000→-4000000000000000000+1000000*(k:Int)≤b→P.1.length≤1000000 →
  av Tryz.prog 89 [.ptr k0 0,.int .i64 b] (HS H k0 km kb f g ws es lf m c) fun r H'=>PR P.1 r∧H'=HS H k0 km kb f g ws es P.2 m c:=by
 induction k with
 | zero=>intro m lf b P hm h;simp[gh]at h
 | succ k ih =>
  intro m lf b P hm h hP hlf hb1 hb0 hPl;have hle:=lx _ _ _ _ h;rw[gh]at h
  have hnl:¬lf-1<0:=by
   intro hq;rw[if_pos hq]at h;cases h
  rw[if_neg hnl]at h;refine prv_cut o hc (by rw[dI];exact rd _) ?_;have s0:=o.sat (f:=f) (g:=g) (ws:=ws) (es:=es) (lf:=lf) (m:=m) hc hm;have s1:=o.sat (f:=f) (g:=g) (ws:=ws) (es:=es) (lf:=lf-1) (m:=m) hc hm;have c1:=spend_h s0 (by omega) hlf;rw[o.set0]at c1;rw[decide_eq_true (show 0≤lf-1 by omega)]at c1
  have hes:es.length≤1000000:=by have:=hb.ne;omega
  have hel:∀e∈es,e.length≤1000000:=fun e he=>by have:=hb.ed.len e he;have:=hb.n;omega
  have c2:=dead_h s1 hb.ed hes hel;have c3:=nJ s1 hb;have c4:=branch_h s1 hb;obtain⟨_,p2,_,_,p5,p6⟩:=fN (m:=m) hb.ed es 0 ws (by simp) rfl (fun v hv _=>by have:=(hb.w v hv).1;omega);have g0:=s1.h0;have gm:=s1.hm;have hml:=bE m;obtain⟨D,hD⟩:∃D,D=fG m es:=⟨_,rfl⟩;rw[←hD]at c2 h
  change gf (bw ws es m).1=(bw ws es m).2 at p2
  obtain⟨S,hS⟩:∃S,S=bw ws es m:=⟨_,rfl⟩;rw[←hS]at c3 h p2;have hbr:=mt hb.ed m;obtain⟨br,hbre⟩:∃br,br=brS es m:=⟨_,rfl⟩;rw[←hbre]at c4 h hbr;refine aF tok Tryz.func89 rfl rfl ?_;refine wx ?_;simp -dsimp[Tryz.f89,rO];refine bD c1 ?_;rintro _ _ ⟨rfl,rfl⟩;by_cases hq0:b≤0
  ·rw[if_pos (.inl hq0)]at h;cases h;simp -dsimp[hq0];exact⟨⟨true,rfl⟩,[],by rw[rj]⟩
  ·simp -dsimp[hq0];refine bD c2 ?_;rintro _ _ ⟨rfl,rfl⟩
   cases D with
   | true =>
    rw[if_pos (.inr rfl)]at h;cases h;simp -dsimp[];exact⟨⟨true,rfl⟩,[],by rw[rj]⟩
   | false =>
    rw[if_neg (by rintro(h | h);exact hq0 h;cases h)]at h;simp -dsimp[];refine bD c3 ?_;rintro _ _ ⟨rfl,rfl⟩;by_cases hq:b≤S.2
    ·rw[if_pos hq]at h;cases h;obtain⟨S1,S2⟩:=S
     cases S1 with
     | nil=>simp only[gf]at p2 hq;omega
     | cons y ys =>
      simp -dsimp[hq,LSh,aP];exact⟨⟨true,by simp[iJ,shV,aP]⟩,[],by rw[rj]⟩
    ·rw[if_neg hq]at h;simp -dsimp[hq,LSh];refine bD c4 ?_;rintro _ _ ⟨rfl,rfl⟩;by_cases hbn:br<0
     ·rw[if_pos hbn]at h;cases h
     rw[if_neg hbn]at h
     rcases hbr with⟨hbr,_⟩ | ⟨hv1,hv2,hv3⟩
     ·exact absurd hbr hbn
     obtain⟨v,rfl⟩:∃v:Nat,br=v:=⟨br.toNat,by omega⟩;rw[sT]at hv1 hv3 h;have hwl:=(am ws 0 hv1).symm;have hwb:=hb.w v hv1;obtain⟨wv,hwv⟩:∃wv,wv=ws.getD v 0:=⟨_,rfl⟩;rw[←hwv]at hwl hwb h;have hww:IntKind.i64.wrap (b-wv)=b-wv:=wrap64 (by omega) (by omega)
     have hm0:m.set v 0=m:=by
      have:m[v]'(by omega)=0:=by rw[←am m 0 (by omega)];exact hv3
      conv=>rhs;rw[←tw (show v<m.length by omega)]
      rw[this]
     have hat:=fun h=>bR (m:=m) (x:=v) h
     rw[hv3]at hat
     have hat1:=fun h=>bR (m:=m.set v 1) (x:=v) h
     have hat2:=fun h=>bR (m:=m.set v 2) (x:=v) h
     have nl1:=bE (m.set v 1);have nl2:=bE (m.set v 2);rw[se]at nl1 nl2;have hst1:(nuL m).set v (.int .i64 1)=nuL (m.set v 1):=dA m v 1;have hst2:(nuL (m.set v 1)).set v (.int .i64 2)=nuL (m.set v 2):=(dA (m.set v 1) v 2).trans (by rw[tC]);have hst3:(nuL (m.set v 2)).set v (.int .i64 0)=nuL m:=(dA (m.set v 2) v 0).trans (by rw[tC,hm0]);have k1:=o.setm (f:=f) (g:=g) (ws:=ws) (es:=es) (lf:=lf-1) (m:=m) (c:=c) (m.set v 1);have k10:=o.at0 (f:=f) (g:=g) (ws:=ws) (es:=es) (lf:=lf-1) (m:=m.set v 1) (c:=c)
     cases hp:gh ws es k (m.set v 1) (lf-1) (b-wv) with
     | none=>rw[hp]at h;cases h
     | some p =>
      rw[hp]at h;simp only at h
      cases hp2:gh ws es k (m.set v 2) p.2 b with
      | none=>rw[hp2]at h;cases h
      | some q =>
       rw[hp2]at h;cases h;simp only[sB,ri]at hPl;simp only at hP hle;have l1:=lx _ _ _ _ hp;have l2:=lx _ _ _ _ hp2;have i1:=ih (m.set v 1) (lf-1) (b-wv) p (by simp[hm]) hp (by omega) (by omega) (by omega) (by omega) (by omega);have i2:=ih (m.set v 2) p.2 b q (by simp[hm]) hp2 hP (by omega) hb1 (by omega) (by omega);simp -dsimp[hbn,g0,gm,hat,hml,hm,hv1,hst1,k1,k10,hwl,hww,L1,aE];refine bD i1 ?_;rintro _ _ ⟨⟨fl1,rfl⟩,rfl⟩;have j0:=o.at0 (f:=f) (g:=g) (ws:=ws) (es:=es) (lf:=p.2) (m:=m.set v 1) (c:=c);have jm:=o.atm (f:=f) (g:=g) (ws:=ws) (es:=es) (lf:=p.2) (m:=m.set v 1) (c:=c);have js:=o.setm (f:=f) (g:=g) (ws:=ws) (es:=es) (lf:=p.2) (m:=m.set v 1) (c:=c) (m.set v 2);simp -dsimp[j0,jm,hat1,nl1,hm,hv1,hst2,js];refine bD i2 ?_;rintro _ _ ⟨⟨fl2,rfl⟩,rfl⟩;have n0:=o.at0 (f:=f) (g:=g) (ws:=ws) (es:=es) (lf:=q.2) (m:=m.set v 2) (c:=c);have nm:=o.atm (f:=f) (g:=g) (ws:=ws) (es:=es) (lf:=q.2) (m:=m.set v 2) (c:=c);have ns:=o.setm (f:=f) (g:=g) (ws:=ws) (es:=es) (lf:=q.2) (m:=m.set v 2) (c:=c) m
       have cc:=concat_N [⟨true,[.agg [.int .i64 (v:Int),.nilS]]⟩,⟨fl1,p.1.map iJ⟩,⟨fl2,q.1.map iJ⟩] true (fun l hl=>by
        simp only[rU,rS,or_false]at hl
        rcases hl with rfl | rfl | rfl
        ·exact kY [⟨(v:Int),[]⟩]
        ·exact kY p.1
        ·exact kY q.1) (by simp) (by simp[gM];omega)
       simp only[tF,tt,jJ]at cc;simp -dsimp[n0,nm,hat2,nl2,hm,hv1,hst3,ns];refine cPx cc (by simp) ?_;simp -dsimp[];exact⟨⟨false,by simp[gM,iJ,shV]⟩,[],by rw[rj]⟩
end
end
theorem pU{s:AM.St}{z:Nat}{xs ys:List V}{fl:Bool}{u:Value}(h:Rel s (.lst z fl xs) u)(hl:xs.length=ys.length)(hz:∀y∈ys,y.cells.length=z∧∀c∈y.cells,c.one=true)
  (hle:∀(i:Nat) x y,xs[i]?=some x→ys[i]?=some y→∀(j:Nat) c,y.cells[j]?=some c→∃d,x.cells[j]?=some d∧lfB d c):Rel s (.lst z fl ys) u:=by
 cases h with
 | lst _ _ _ A cap b off u hcap hfull hA hz0 hcell hrel =>
  rw[hl];refine .lst z fl ys A cap b off u (by omega) (fun h=>by rw[←hl];exact hfull h) (fun h=>hA (by omega)) hz (fun i y j c hy hc=>?_) (fun i y j c hy hc=>?_)
  ·have hx:xs[i]?=some (xs[i]'(by have:=aB hy;omega)):=rT _;obtain⟨d,hd,_⟩:=hle i _ y hx hy j c hc;exact hcell i _ j d hx hd
  ·have hx:xs[i]?=some (xs[i]'(by have:=aB hy;omega)):=rT _;obtain⟨d,hd,h2⟩:=hle i _ y hx hy j c hc;exact nQ (hrel i _ j d hx hd) h2
theorem ka{P:Program}{f:FuncId}{args:List V}{K K':V→Prop}(h:aL P f args K)(hk:∀s u r,K r→Rel s r u→∃r',Rel s r' u∧AM.Pure r'∧K' r'):aL P f args K':=by
 refine⟨h.1,fun F w vals hZ hF hsz hrel=>(h.2 F w vals hZ hF hsz hrel).mono fun e w' ⟨u,r,a1,a2,a3,a4,a5⟩=>?_⟩;obtain⟨r',b1,b2,b3⟩:=hk _ u r a5 a3;exact⟨u,r',a1,b2,b1,a4,b3⟩
theorem shV_lf(l:List Shr):lfB (shV l) (LSh false l):=by
 cases l with
 | nil=>exact .inr (.inr ⟨2,rfl,rfl⟩)
 | cons x l=>exact .inl rfl
theorem rel_nodes{s:AM.St}{fl:Bool}{l:List Nde}{u:Value}(h:Rel s (.lst 2 fl (l.map iJ)) u):Rel s (LNd fl l) u:=by
 refine pU h (by simp) (fun y hy=>?_) (fun i x y hx hy j c hc=>?_)
 ·obtain⟨z,_,rfl⟩:=List.mem_map.1 hy;refine⟨rfl,fun c hc=>?_⟩;simp only[aS,V.cells,rU,rS,or_false]at hc
  rcases hc with rfl | rfl<;>rfl
 ·rw[sQ]at hx hy
  cases hz:l[i]? with
  | none=>rw[hz]at hx;cases hx
  | some z =>
   rw[hz]at hx hy;simp only[sU,Option.some.injEq]at hx hy;subst hx;subst hy
   match j with
   | 0=>simp[aS,V.cells]at hc;subst hc;exact⟨_,rfl,.inl rfl⟩
   | 1=>simp[aS,V.cells]at hc;subst hc;exact⟨_,rfl,shV_lf z.l⟩
   | j+2=>simp[aS,V.cells]at hc
def PN(l:List Nde)(r:V):Prop:=∃fl,r = .tup [LNd fl l,.int .i64 0]
theorem prove_u{ws:List Int}{es:List (List Nat)}(hb:HsB ws es)(f g:Bool)(b lf:Int)(P:List Nde×Int)(h:gh ws es (ws.length+1) (rO ws.length 0) lf b=some P)(h1:1≤lf)(h2:lf≤9000000000000000000)(h3 : -1000000000000000≤b)(h4:b≤1000000000000000)(hP : -9000000000000000000≤P.2)(hl:P.1.length≤1000000):
  aL Tryz.prog 47 [aR f g ws es,.int .i64 b,.int .i64 lf] (PN P.1):=by
 refine ka (K:=PR P.1) ?_ (fun s u r ⟨fl,hr⟩ hrel=>?_)
 ·have hel:∀e∈es,e.length≤1000000:=fun e he=>by have:=hb.ed.len e he;have:=hb.n;omega
  have cv:=iH ws es f g hel;rw[cS.2 hb]at cv
  have hr0:∀bl∈[B.cells [L1 f ws,LLn g es]],rbB [B.cells [L1 f ws,LLn g es]].length bl:=by
   intro bl hb;simp at hb;subst hb;intro c hc;simp at hc;rcases hc with rfl | rfl<;>exact bq (by simp) rfl
  have c1:=gR [B.cells [L1 f ws,LLn g es]] f g ws es lf hb.n;have sa:=nsH_at hr0 f g ws es lf;have o:BOk (nsH [B.cells [L1 f ws,LLn g es]] f g ws es lf) 3 2 0:=⟨by simp[nsH],by simp[nsH],by simp[nsH],by omega,by omega,by omega,sa.rb⟩;have c2:=prove_h (c:=B.cells [L1 f ws,LLn g es]) (f:=f) (g:=g) o (rbBM (by simp[nsH]) (hr0 _ (by simp))) hb (ws.length+1) (rO ws.length 0) lf b P (by simp) h hP h2 (by omega) (by have:=hb.n;omega) hl;have hH:HS (nsH [B.cells [L1 f ws,LLn g es]] f g ws es lf) 3 2 0 f g ws es lf (rO ws.length 0) (B.cells [L1 f ws,LLn g es])=nsH [B.cells [L1 f ws,LLn g es]] f g ws es lf:=rfl;rw[hH]at c2;simp only[aR]at cv c1;refine sPx Tryz.func47 rfl rfl ?_;simp -dsimp[Tryz.f47,rO,aR];refine cPx (cv) (by simp) ?_;simp -dsimp[show ¬lf<1 by omega,show ¬b < -1000000000000000 by omega,show ¬1000000000000000<b by omega];refine bD c1 ?_;rintro _ _ ⟨rfl,rfl⟩;simp -dsimp[];refine bD c2 ?_;rintro _ _ ⟨⟨fl,rfl⟩,rfl⟩;simp -dsimp[];exact⟨fl,rfl⟩
 ·subst hr;refine⟨.tup [LNd fl P.1,.int .i64 0],?_,by simp,fl,rfl⟩
  cases hrel with
  | tup _ us hs h =>
   refine .tup _ us hs (fun i c u hc hu=>?_)
   match i with
   | 0=>simp at hc;subst hc;exact rel_nodes (h 0 _ u rfl hu)
   | 1=>simp at hc;subst hc;exact h 1 _ u rfl hu
   | i+2=>simp at hc
section
def swp(j:Nat)(l:List Nat):List Nat:=(l.set (j+1) (l.getD j 0)).set j (l.getD (j+1) 0)
def gN(lt:Nat→Nat→Bool):Nat→List Nat→List Nat
 | 0,l=>l
 | j+1,l=>if lt (l.getD (j+1) 0) (l.getD j 0)=true then gN lt j (swp j l) else l
def isF(lt:Nat→Nat→Bool):Nat→Nat→List Nat→List Nat
 | 0,_,l=>l
 | r+1,i,l=>isF lt r (i+1) (gN lt i l)
theorem swp_len(j:Nat)(l:List Nat):(swp j l).length=l.length:=by simp[swp]
theorem swp_perm(j:Nat)(l:List Nat)(h:j+1<l.length):(swp j l).Perm l:=by
 unfold swp;rw[am l 0 h,am l 0 (show j<l.length by omega)];exact List.set_set_perm h (by omega)
theorem iY(lt:Nat→Nat→Bool):∀(j:Nat) (l:List Nat),j<l.length→(gN lt j l).Perm l
 | 0,l,_=>.refl _
 | j+1,l,h=>by
  rw[gN];split
  ·exact(iY lt j (swp j l) (by rw[swp_len];omega)).trans (swp_perm j l h)
  ·exact .refl _
theorem jg(lt:Nat→Nat→Bool):∀(r i:Nat) (l:List Nat),i+r≤l.length→(isF lt r i l).Perm l
 | 0,_,l,_=>.refl _
 | r+1,i,l,h=>by
  rw[isF];have h1:=iY lt i l (by omega);exact(jg lt r (i+1) _ (by rw[h1.length_eq];omega)).trans h1
def ku(x:Nat):List Nat→List Nat
 | []=>[x]
 | y::rp=>if x<y then ku x rp++[y] else rp.reverse++[y,x]
def ltN(a b:Nat):Bool:=decide (a<b)
theorem sink_ins(x:Nat):∀(rp post:List Nat),gN ltN rp.length (rp.reverse++x::post)=ku x rp++post
 | [],post=>rfl
 | y::rp,post=>by
  have e:(y::rp).reverse++x::post=rp.reverse++y::x::post:=by simp
  rw[e,sB,gN,ku]
  have g1:(rp.reverse++y::x::post).getD (rp.length+1) 0=x:=by
   simp[tO,rq]
  have g2:(rp.reverse++y::x::post).getD rp.length 0=y:=by
   simp[tO,rq]
  have g3:swp rp.length (rp.reverse++y::x::post)=rp.reverse++x::y::post:=by
   unfold swp;rw[g1,g2,sS _ _ (by simp),sS _ _ (by simp)];simp
  rw[g1,g2,g3];by_cases h:x<y
  ·rw[if_pos (by simp[ltN,h]),if_pos h,sink_ins x rp (y::post)];simp
  ·rw[if_neg (by simp[ltN,h]),if_neg h];simp
theorem insBn_mem(x:Nat):∀(rp:List Nat) (z:Nat),z∈ku x rp↔z=x∨z∈rp
 | [],z=>by simp[ku]
 | y::rp,z=>by
  rw[ku];split
  ·rw[sx,sC,rU,insBn_mem x rp z];constructor
   ·rintro((h | h) | h)
    ·exact .inl h
    ·exact .inr (.inr h)
    ·exact .inr (.inl h)
   ·rintro(h | h | h)
    ·exact .inl (.inl h)
    ·exact .inr h
    ·exact .inl (.inr h)
  ·simp only[sx,List.mem_reverse,rU,rS,or_false];constructor
   ·rintro(h | h | h)<;>simp[h]
   ·rintro(h | h | h)<;>simp[h]
theorem mR(x:Nat):∀rp:List Nat,rp.reverse.Pairwise (·≤·)→(ku x rp).Pairwise (·≤·)
 | [],_=>by simp[ku]
 | y::rp,h=>by
  rw[List.reverse_cons,ti]at h;obtain⟨h1,_,h3⟩:=h;rw[ku];split
  ·rename_i hx;rw[ti];refine⟨mR x rp h1,by simp,fun a ha b hb=>?_⟩;rw[sC]at hb;subst hb
   rcases(insBn_mem x rp a).1 ha with rfl | ha
   ·omega
   ·exact h3 a (by simpa using ha) b (by simp)
  ·rename_i hx;rw[ti];refine⟨h1,by simp;omega,fun a ha b hb=>?_⟩;have:=h3 a ha y (by simp);simp at hb
   rcases hb with rfl | rfl<;>omega
theorem qA:∀(r i:Nat) (l:List Nat),i+r=l.length→(l.take i).Pairwise (·≤·)→(isF ltN r i l).Pairwise (·≤·)
 | 0,i,l,h,hs=>by
  rw[isF]
  rwa [rt (by omega)]at hs
 | r+1,i,l,h,hs=>by
  rw[isF]
  have hi:i<l.length:=by omega
  have e:l=(l.take i).reverse.reverse++l[i]::l.drop (i+1):=by
   rw[uF,←rP hi,tG]
  have hl:(l.take i).reverse.length=i:=by simp;omega
  have hk:=sink_ins l[i] (l.take i).reverse (l.drop (i+1));rw[hl,←e]at hk
  have hin:(ku l[i] (l.take i).reverse).length=i+1:=by
   have h1:=(iY ltN i l hi).length_eq;rw[hk,ri,tL]at h1;omega
  refine qA r (i+1) _ (by rw[(iY ltN i l hi).length_eq];omega) ?_;rw[hk,List.take_left' hin];exact mR _ _ (by rwa [uF])
section
variable {H:List B} {k:Nat}
def SL(H:List B)(k:Nat)(l:List Nat):List B:=H.set k (.buf 3 1 (nuL l) false)
theorem SL_at{H:List B}{k:Nat}(h:k<H.length)(l:List Nat):(SL H k l)[k]?=some (.buf 3 1 (nuL l) false):=by
 unfold SL;rw[sA h]
theorem SL_set(H:List B)(k:Nat)(l l':List Nat):(SL H k l).set k (.buf 3 1 (nuL l') false)=SL H k l':=by
 unfold SL;rw[tC]
theorem gw(H:List B)(k:Nat)(l:List Nat):(SL H k l).length=H.length:=by simp[SL]
theorem SL_rb{H:List B}(hH:∀bl∈H,rbB H.length bl)(k:Nat)(l:List Nat):∀bl∈SL H k l,rbB (SL H k l).length bl:=fK hH ((rbB_buf1 (eL l)).2 trivial)
theorem nan_I(x:Int):aL Tryz.prog 269 [.int .i64 x] fun r=>r = .bool false:=by
 refine sPx Tryz.func269 rfl rfl ?_;simp -dsimp[Tryz.f269,rO]
theorem less_I(a b:Nat):aL Tryz.prog 231 [.int .i64 (a:Int),.int .i64 (b:Int)] fun r=>r = .bool (ltN a b):=by
 unfold ltN;by_cases h:a<b
 ·rw[decide_eq_true h];refine sPx Tryz.func231 rfl rfl ?_;simp -dsimp[Tryz.f231,rO];refine cPx (nan_I a) (by simp) ?_;simp -dsimp[h]
 ·rw[decide_eq_false h];refine sPx Tryz.func231 rfl rfl ?_;simp -dsimp[Tryz.f231,rO];refine cPx (nan_I a) (by simp) ?_;simp -dsimp[h]
theorem insOrd_h(hk:k<H.length)(hH:∀bl∈H,rbB H.length bl)(l:List Nat)(n:Nat)(hn:l.length=n)(hn2:n≤1000000):
  av Tryz.prog 225 [.buf k 0 n n,.int .i64 0,.int .i64 n] (SL H k l) fun _ H'=>H'=SL H k (isF ltN (n-1) 1 l):=by
 obtain⟨S,hS⟩:∃S,S=isF ltN (n-1) 1 l:=⟨_,rfl⟩;rw[←hS];have w1:IntKind.i64.wrap (1:Int)=1:=wrap64 (by omega) (by omega);refine aF tok Tryz.func225 rfl rfl ?_;refine wx ?_;simp -dsimp[Tryz.f225,rO,w1];refine aG (W_loopM 49 0x1fffffffffcc0 (by simp[mB]<;>rfl) (σ:=Nat×List Nat) (fun p=>1≤p.1∧p.1≤n+1∧p.2.length=n∧isF ltN (n-p.1) p.1 p.2=S) (fun p=>n+1-p.1) (fun p=>[(6,.int .i64 p.1)]) (fun p=>SL H k p.2) (1,l) ⟨by simp,by simp,hn,hS.symm⟩ (by simp) (by simp) (by simp[gw]) ?_);rintro⟨i,l1⟩ ⟨hi,hi2,hl1,hx⟩ N Q hN hQ;simp only at hi hi2 hl1 hx hN;by_cases hb:i<n
 ·rw[show n-i=(n-(i+1))+1 by omega,isF]at hx;refine wx ?_;simp -dsimp[hb];refine aG (W_loopM 49 0x1ffffffff0080 (by simp[mB]<;>rfl) (σ:=Nat×List Nat) (fun p=>p.1≤i∧p.2.length=n∧gN ltN p.1 p.2=gN ltN i l1) (fun p=>p.1) (fun p=>[(7,.int .i64 p.1)]) (fun p=>SL H k p.2) (i,l1) ⟨by simp,hl1,rfl⟩ (by simp) (by simp) (by simp[gw]) ?_);rintro⟨j,l2⟩ ⟨hj,hl2,hy⟩ N2 Q2 hN2 hQ2;simp only at hj hl2 hy hN2;have g9:=SL_at hk l2;have hnl:=bE l2
  cases j with
  | zero =>
   rw[gN]at hy;refine wx ?_;simp -dsimp[];refine .inr ⟨aC (by kernel_rfl),?_⟩;refine hQ2 _ _ _ ?_;simp -dsimp[aH i (by omega)];refine hN (i+1,l2) _ _ ⟨by simp only;omega,by simp only;omega,hl2,by rw[hy];exact hx⟩ (by simp only;omega) (by simp) ⟨[],by simp⟩ (by simp[gw];exact hk) (SL_rb hH k l2)
  | succ j =>
   rw[gN]at hy
   have a1:=fun h=>bR (m:=l2) (x:=j+1) h
   have a0:=fun h=>bR (m:=l2) (x:=j) h
   have wj:IntKind.i64.wrap (((j:Int)+1)-1)=(j:Int):=by rw[wrap64 (by omega) (by omega)];omega
   have wj2:IntKind.i64.wrap (j:Int)=(j:Int):=ai j (by omega)
   have hj1:j+1<n:=by omega
   have hj0:j<n:=by omega
   obtain⟨x,hxx⟩:∃x,x=l2.getD (j+1) 0:=⟨_,rfl⟩;obtain⟨y,hyy⟩:∃y,y=l2.getD j 0:=⟨_,rfl⟩;rw[←hxx,←hyy]at hy;rw[←hxx]at a1;rw[←hyy]at a0;have cl:=less_I x y
   cases hq:ltN x y with
   | true =>
    rw[hq]at cl;rw[if_pos hq]at hy;refine wx ?_;simp -dsimp[g9,hnl,hl2,hj1,hj0,a1,a0,wj,wj2,show(0:Int)≤(j:Int)+1 by omega,show(j:Int)+1<(n:Int) by omega];refine .inr ⟨aC (by kernel_rfl),?_⟩;refine aN _ (aK (cl) (by simp)) ?_;simp -dsimp[]
    have hsw:swp j l2=(l2.set (j+1) y).set j x:=by unfold swp;rw[←hxx,←hyy]
    have hst1:(nuL l2).set (j+1) (.int .i64 (y:Int))=nuL (l2.set (j+1) y):=dA l2 (j+1) y
    have hst2:(nuL (l2.set (j+1) y)).set j (.int .i64 (x:Int))=nuL (swp j l2):=by rw[hsw];exact dA _ j x
    have q9:=SL_at hk (l2.set (j+1) y);have qs1:=SL_set H k l2 (l2.set (j+1) y);have qs2:=SL_set H k (l2.set (j+1) y) (swp j l2);have qnl:=bE (l2.set (j+1) y);rw[se]at qnl
    have b0:=fun h=>bR (m:=l2.set (j+1) y) (x:=j) h
    refine aG (aW tok mixed [15,17] [(2,[1]),(3,[1]),(4,[1])] [] (by kernel_rfl) fun C K hC hK=>?_);simp -implicitDefEqProofs [g9,hnl,hl2,hj1,hj0,a1,a0,wj,wj2,hst1,hst2,q9,qs1,qs2,qnl,b0,show(0:Int)≤(j:Int)+1 by omega,show(j:Int)+1<(n:Int) by omega];refine hK _ _ ?_;simp -dsimp[wj,wj2];refine hN2 (j,swp j l2) _ _ ⟨by simp only;omega,by rw[swp_len];exact hl2,hy⟩ (by simp only;omega) (by simp) ⟨[],by simp⟩ (by simp[gw];exact hk) (SL_rb hH k _)
   | false =>
    rw[hq]at cl;rw[if_neg (by rw[hq];simp)]at hy;refine wx ?_;simp -dsimp[g9,hnl,hl2,hj1,hj0,a1,a0,wj,wj2,show(0:Int)≤(j:Int)+1 by omega,show(j:Int)+1<(n:Int) by omega];refine .inr ⟨aC (by kernel_rfl),?_⟩;refine aN _ (aK (cl) (by simp)) ?_;simp -dsimp[];refine hQ2 _ _ _ ?_;simp -dsimp[aH i (by omega)];refine hN (i+1,l2) _ _ ⟨by simp only;omega,by simp only;omega,hl2,by rw[hy];exact hx⟩ (by simp only;omega) (by simp) ⟨[],by simp⟩ (by simp[gw];exact hk) (SL_rb hH k l2)
 ·rw[show n-i=0 by omega,isF]at hx;subst hx;refine wx ?_;simp -dsimp[hb];refine hQ _ _ _ ?_;simp -dsimp[]
end
end
section
def oJ(cf:Nat→Nat→Int)(a b:Nat):Bool:=decide (cf a b<0)
section
variable {H:List B} {k:Nat}
theorem insCmp_h(hk:k<H.length)(hH:∀bl∈H,rbB H.length bl)(l:List Nat)(n:Nat)(hn:l.length=n)(hn2:n≤1000000)(fv:V)(hfv:rb H.length fv)(cf:Nat→Nat→Int)(hp:∀a b,a∈l→b∈l→∀l',aQ Tryz.prog fv [.int .i64 (a:Int),.int .i64 (b:Int)] (SL H k l') fun r H'=>r = .int .i64 (cf a b)∧H'=SL H k l'):
  av Tryz.prog 223 [.buf k 0 n n,.int .i64 0,.int .i64 n,fv] (SL H k l) fun _ H'=>H'=SL H k (isF (oJ cf) (n-1) 1 l):=by
 obtain⟨S,hS⟩:∃S,S=isF (oJ cf) (n-1) 1 l:=⟨_,rfl⟩;rw[←hS];have w1:IntKind.i64.wrap (1:Int)=1:=wrap64 (by omega) (by omega);refine aF tok Tryz.func223 rfl rfl ?_;refine wx ?_;simp -dsimp[Tryz.f223,rO,w1];refine aG (W_loopM 53 0x1ffffffffff300 (by simp[mB]<;>rfl) (σ:=Nat×List Nat) (fun p=>1≤p.1∧p.1≤n+1∧p.2.length=n∧p.2.Perm l∧isF (oJ cf) (n-p.1) p.1 p.2=S) (fun p=>n+1-p.1) (fun p=>[(8,.int .i64 p.1)]) (fun p=>SL H k p.2) (1,l) ⟨by simp,by simp,hn,.refl _,hS.symm⟩ (by simp) (by simp) (by simp[gw]) ?_);rintro⟨i,l1⟩ ⟨hi,hi2,hl1,hpm,hx⟩ N Q hN hQ;simp only at hi hi2 hl1 hpm hx hN;by_cases hb:i<n
 ·rw[show n-i=(n-(i+1))+1 by omega,isF]at hx;refine wx ?_;simp -dsimp[hb];refine aG (W_loopM 53 0x1ffffffffc0200 (by simp[mB]<;>rfl) (σ:=Nat×List Nat) (fun p=>p.1≤i∧p.2.length=n∧p.2.Perm l∧gN (oJ cf) p.1 p.2=gN (oJ cf) i l1) (fun p=>p.1) (fun p=>[(9,.int .i64 p.1)]) (fun p=>SL H k p.2) (i,l1) ⟨by simp,hl1,hpm,rfl⟩ (by simp) (by simp) (by simp[gw]) ?_);rintro⟨j,l2⟩ ⟨hj,hl2,hpm2,hy⟩ N2 Q2 hN2 hQ2;simp only at hj hl2 hpm2 hy hN2;have g9:=SL_at hk l2;have hnl:=bE l2
  cases j with
  | zero =>
   rw[gN]at hy;refine wx ?_;simp -dsimp[];refine .inr ⟨aC (by kernel_rfl),?_⟩;refine hQ2 _ _ _ ?_;simp -dsimp[aH i (by omega)];refine hN (i+1,l2) _ _ ⟨by simp only;omega,by simp only;omega,hl2,hpm2,by rw[hy];exact hx⟩ (by simp only;omega) (by simp) ⟨[],by simp⟩ (by simp[gw];exact⟨hk,hfv⟩) (SL_rb hH k l2)
  | succ j =>
   rw[gN]at hy
   have a1:=fun h=>bR (m:=l2) (x:=j+1) h
   have a0:=fun h=>bR (m:=l2) (x:=j) h
   have wj:IntKind.i64.wrap (((j:Int)+1)-1)=(j:Int):=by rw[wrap64 (by omega) (by omega)];omega
   have wj2:IntKind.i64.wrap (j:Int)=(j:Int):=ai j (by omega)
   have hj1:j+1<n:=by omega
   have hj0:j<n:=by omega
   obtain⟨x,hxx⟩:∃x,x=l2.getD (j+1) 0:=⟨_,rfl⟩;obtain⟨y,hyy⟩:∃y,y=l2.getD j 0:=⟨_,rfl⟩;rw[←hxx,←hyy]at hy;rw[←hxx]at a1;rw[←hyy]at a0;have hmx:x∈l:=hpm2.mem_iff.1 (by rw[hxx,am l2 0 (by omega)];exact rQ _);have hmy:y∈l:=hpm2.mem_iff.1 (by rw[hyy,am l2 0 (by omega)];exact rQ _);have cl:=hp x y hmx hmy l2;obtain⟨z,hz⟩:∃z,z=cf x y:=⟨_,rfl⟩;rw[←hz]at cl
   have hzq:oJ cf x y=decide (z<0):=by rw[hz];rfl
   cases hq:oJ cf x y with
   | true =>
    rw[if_pos hq]at hy;rw[hzq]at hq;have hz0:=of_decide_eq_true hq;refine wx ?_;simp -dsimp[g9,hnl,hl2,hj1,hj0,a1,a0,wj,wj2,show(0:Int)≤(j:Int)+1 by omega,show(j:Int)+1<(n:Int) by omega];refine .inr ⟨aC (by kernel_rfl),?_⟩;refine aN _ cl ?_;simp -dsimp[hz0]
    have hsw:swp j l2=(l2.set (j+1) y).set j x:=by unfold swp;rw[←hxx,←hyy]
    have hst1:(nuL l2).set (j+1) (.int .i64 (y:Int))=nuL (l2.set (j+1) y):=dA l2 (j+1) y
    have hst2:(nuL (l2.set (j+1) y)).set j (.int .i64 (x:Int))=nuL (swp j l2):=by rw[hsw];exact dA _ j x
    have q9:=SL_at hk (l2.set (j+1) y);have qs1:=SL_set H k l2 (l2.set (j+1) y);have qs2:=SL_set H k (l2.set (j+1) y) (swp j l2);have qnl:=bE (l2.set (j+1) y);rw[se]at qnl
    have b0:=fun h=>bR (m:=l2.set (j+1) y) (x:=j) h
    refine aG (aW tok mixed [15,17] [(2,[1]),(3,[1]),(4,[1])] [] (by kernel_rfl) fun C K hC hK=>?_);simp -implicitDefEqProofs [g9,hnl,hl2,hj1,hj0,a1,a0,wj,wj2,hst1,hst2,q9,qs1,qs2,qnl,b0,show(0:Int)≤(j:Int)+1 by omega,show(j:Int)+1<(n:Int) by omega];refine hK _ _ ?_;simp -dsimp[wj,wj2];refine hN2 (j,swp j l2) _ _ ⟨by simp only;omega,by rw[swp_len];exact hl2,(swp_perm j l2 (by omega)).trans hpm2,hy⟩ (by simp only;omega) (by simp) ⟨[],by simp⟩ (by simp[gw];exact⟨hk,hfv⟩) (SL_rb hH k _)
   | false =>
    rw[if_neg (by rw[hq];simp)]at hy;rw[hzq]at hq;have hz0:=of_decide_eq_false hq;refine wx ?_;simp -dsimp[g9,hnl,hl2,hj1,hj0,a1,a0,wj,wj2,show(0:Int)≤(j:Int)+1 by omega,show(j:Int)+1<(n:Int) by omega];refine .inr ⟨aC (by kernel_rfl),?_⟩;refine aN _ cl ?_;simp -dsimp[hz0];refine hQ2 _ _ _ ?_;simp -dsimp[aH i (by omega)];refine hN (i+1,l2) _ _ ⟨by simp only;omega,by simp only;omega,hl2,hpm2,by rw[hy];exact hx⟩ (by simp only;omega) (by simp) ⟨[],by simp⟩ (by simp[gw];exact⟨hk,hfv⟩) (SL_rb hH k l2)
 ·rw[show n-i=0 by omega,isF]at hx;subst hx;refine wx ?_;simp -dsimp[hb];refine hQ _ _ _ ?_;simp -dsimp[]
theorem bitsLen(n:Nat)(h:n≤12):∃v:Int,aL Tryz.prog 105 [.int .u64 (n:Int)] fun r=>r = .int .i64 v :=
 match n,h with
 | 0,_=>⟨0,aO tok mixed au bc (fuel:=1000) (d:=40) (by kernel_rfl) (by simp)⟩
 | 1,_=>⟨1,aO tok mixed au bc (fuel:=1000) (d:=40) (by kernel_rfl) (by simp)⟩
 | 2,_=>⟨2,aO tok mixed au bc (fuel:=1000) (d:=40) (by kernel_rfl) (by simp)⟩
 | 3,_=>⟨2,aO tok mixed au bc (fuel:=1000) (d:=40) (by kernel_rfl) (by simp)⟩
 | 4,_=>⟨3,aO tok mixed au bc (fuel:=1000) (d:=40) (by kernel_rfl) (by simp)⟩
 | 5,_=>⟨3,aO tok mixed au bc (fuel:=1000) (d:=40) (by kernel_rfl) (by simp)⟩
 | 6,_=>⟨3,aO tok mixed au bc (fuel:=1000) (d:=40) (by kernel_rfl) (by simp)⟩
 | 7,_=>⟨3,aO tok mixed au bc (fuel:=1000) (d:=40) (by kernel_rfl) (by simp)⟩
 | 8,_=>⟨4,aO tok mixed au bc (fuel:=1000) (d:=40) (by kernel_rfl) (by simp)⟩
 | 9,_=>⟨4,aO tok mixed au bc (fuel:=1000) (d:=40) (by kernel_rfl) (by simp)⟩
 | 10,_=>⟨4,aO tok mixed au bc (fuel:=1000) (d:=40) (by kernel_rfl) (by simp)⟩
 | 11,_=>⟨4,aO tok mixed au bc (fuel:=1000) (d:=40) (by kernel_rfl) (by simp)⟩
 | 12,_=>⟨4,aO tok mixed au bc (fuel:=1000) (d:=40) (by kernel_rfl) (by simp)⟩
 | n+13,h=>by omega
theorem sort_h(hk:k<H.length)(hH:∀bl∈H,rbB H.length bl)(l:List Nat)(n:Nat)(hn:l.length=n)(hn2:n≤12):
  av Tryz.prog 116 [.buf k 0 n n] (SL H k l) fun _ H'=>H'=SL H k (isF ltN (n-1) 1 l):=by
 obtain⟨v,hv⟩:=bitsLen n hn2;have c1:=insOrd_h hk hH l n hn (by omega)
 have c2:av Tryz.prog 171 [.buf k 0 n n,.int .i64 0,.int .i64 n,.int .i64 v] (SL H k l) fun _ H'=>H'=SL H k (isF ltN (n-1) 1 l):=by
  have w0:IntKind.i64.wrap (n:Int)=n:=ai n (by omega);refine aF tok Tryz.func171 rfl rfl ?_;refine wx ?_;simp -dsimp[Tryz.f171,rO];refine aG (W_loopM 134 0x3fffffffffffffffffffffffffffffff0e (by simp[mB]<;>rfl) (σ:=Nat) (fun p=>p=0) (fun p=>0) (fun _=>[(8,.bool true),(9,.bool true),(1,.int .i64 0),(2,.int .i64 n),(3,.int .i64 v)]) (fun _=>SL H k l) 0 rfl (by simp) (by simp) (by simp) ?_);rintro p rfl N Q hN hQ;refine wx ?_;simp -dsimp[w0,show(n:Int)≤12 by omega,show n≤12 by omega];refine bD c1 ?_;rintro _ _ rfl;simp -dsimp[];refine hQ _ _ _ ?_;simp -dsimp[]
 have wu:IntKind.u64.wrap (n:Int)=(n:Int):=by rw[IntKind.wrap_u64];omega
 have g9:=SL_at hk l;have hnl:=bE l;refine aF tok Tryz.func116 rfl rfl ?_;refine wx ?_;simp -dsimp[Tryz.f116,rO,g9,hnl,hn,wu];refine cPx hv (by simp) ?_;simp -dsimp[];refine bD c2 ?_;rintro _ _ rfl;simp -dsimp[]
theorem sortStable_h(hk:k<H.length)(hH:∀bl∈H,rbB H.length bl)(l:List Nat)(n:Nat)(hn:l.length=n)(hn2:n<20)(fv:V)(hfv:rb H.length fv)(cf:Nat→Nat→Int)(hp:∀a b,a∈l→b∈l→∀l',aQ Tryz.prog fv [.int .i64 (a:Int),.int .i64 (b:Int)] (SL H k l') fun r H'=>r = .int .i64 (cf a b)∧H'=SL H k l'):
  av Tryz.prog 113 [.buf k 0 n n,fv] (SL H k l) fun _ H'=>H'=SL H k (isF (oJ cf) (n-1) 1 l):=by
 have c1:=insCmp_h hk hH l n hn (by omega) fv hfv cf hp
 have c2:av Tryz.prog 170 [.buf k 0 n n,.int .i64 n,fv] (SL H k l) fun _ H'=>H'=SL H k (isF (oJ cf) (n-1) 1 l):=by
  refine aF tok Tryz.func170 rfl rfl ?_;refine wx ?_;simp -dsimp[Tryz.f170,rO];refine aG (W_loopM 23 0x7ff980 (by simp[mB]<;>rfl) (σ:=Nat) (fun p=>p=0) (fun p=>0) (fun _=>[(7,.int .i64 0),(8,.int .i64 20)]) (fun _=>SL H k l) 0 rfl (by simp) (by simp) (by simp) ?_);rintro p rfl N Q hN hQ;refine wx ?_;simp -dsimp[show ¬(20:Int)≤n by omega,show ¬20≤n by omega];refine hQ _ _ _ ?_;simp -dsimp[];refine bD c1 ?_;rintro _ _ rfl;simp -dsimp[];refine aG (W_loopM 63 0x7ffffffff00003c0 (by simp[mB]<;>rfl) (σ:=Nat) (fun p=>p=0) (fun p=>0) (fun _=>[(6,.int .i64 20)]) (fun _=>SL H k (isF (oJ cf) (n-1) 1 l)) 0 rfl (by simp) (by simp) (by simp) ?_);rintro p rfl N2 Q2 hN2 hQ2;refine wx ?_;simp -dsimp[show ¬(20:Int)<n by omega,show ¬20<n by omega];refine hQ2 _ _ _ ?_;simp -dsimp[]
 have g9:=SL_at hk l;have hnl:=bE l;refine aF tok Tryz.func113 rfl rfl ?_;refine wx ?_;simp -dsimp[Tryz.f113,rO,g9,hnl,hn];refine bD c2 ?_;rintro _ _ rfl;simp -dsimp[]
end
end
end
end Go.Proofs.YtjogkbekekdkjaaGreatDoor
