/- JB25: texts CX, joined and shortened by pack6.py. -/
import Derived.Test.YtnaokiodhoadjaaGreatDoorJB24
set_option linter.all false
set_option maxRecDepth 100000
set_option maxHeartbeats 64000000
open List renaming replicate→tg,nil_append→uL,filter_nil→wn
namespace Go.Proofs.YtnaokiodhoadjaaGreatDoor
section
open Go Go.AM Go.Proofs.Tryz
def rows_rb(n:Nat)(e:Nat)(ms:List Rw)(fz:Bool):rbB n (.buf e 2 (ms.map aF) fz):=by
 intro x hx;obtain⟨y,_,rfl⟩:=List.mem_map.1 hx;intro c a;simp only[aF,V.cells,tw,tq,or_false]at a
 rcases a with rfl | rfl<;>simp[rb,rb1,LV]
def pQ{H:List B}{a c:V}{k:IntKind}{n:Int}(h:ExpX H a c):ExpX H (.tup [a,.int k n]) (.tup [c,.int k n]):=.tup _ _ rfl (fun i x y hx b=>by
 match i with
 | 0=>simp at hx b;subst hx;subst b;exact h
 | 1=>simp at hx b;subst hx;subst b;exact .pure _ (.int _ _)
 | i+2=>simp at hx)
def cap32r(n:Nat)(h:n<=1000000000):n<=9223372036854775806/\(n+1)*32<=140737488355328:=by omega
def violC_u(t:Tb)(c:Cfd)(f g f2 C:Bool)(h:TbS t)(hl:c.l.length<=1000000)(hp:c.p.length<=1000000)(hv:validT t=0)(ho:cfB t.attrs.length c=true):aK prog 152 [aD f g t,ac f2 C c] fun r=>r = .tup [LL false (qa c t.rows),.int .i64 0]:=by
 refine oQ ?_;have ct:=tbC hv;have S:=cf_ok ho hl;have c1:=gP t f g h.ok;rw[hv]at c1;have c2:=validC_u t.attrs.length c f2 C ct.wide hl hp;rw[ho]at c2;have cr:=right_u c f2 C S.p;simp only[aD,LR,LS,ac,L1,LCl]at c1 c2 cr;obtain⟨R,hR⟩:=ξ t.rows
 have X:tcB t f g = .cells [.str t.name,.lst 1 f (t.attrs.map V.str),.lst 2 g (R.map aF)]:=by rw[hR];rfl
 obtain⟨M,hM⟩:=ξ (R.filter (gZ c))
 obtain⟨S1,U⟩:=ξ ((M.filter fun r=>!jK c r).map fun r=>[r.id])
 obtain⟨S2,T⟩:=ξ (prL (gW c) M)
 have aA:R.length<=8:=by rw[hR];exact h.few
 have L:M.length<=8:=by rw[hM];exact ug (uU _ _) aA
 have ad:S1.length<=8:=by rw[U,ud];exact ug (uU _ _) L
 have j:S2.length<=64:=by rw[T];exact ug (fg M) (sq8 L)
 have hE:qa c R=S1++S2:=by rw[U,T,hM];rfl
 have O:∀r∈R,r.vals.length=t.attrs.length:=by rw[hR];exact ct.len
 have Z:∀r∈M,r.vals.length=t.attrs.length:=fun r hr=>O r (by rw[hM]at hr;exact(List.mem_filter.1 hr).1)
 rw[<-hR]at c1 ⊢;rw[hE]
 have ay:∀o:List Rw,∀bl∈[B.cells [.str t.name,.lst 1 f (t.attrs.map V.str),.lst 2 g (R.map aF)],B.cells [.lst 1 f2 (c.l.map aG),.int .i64 c.r,.lst 4 C (c.p.map av)],B.buf 71 2 (o.map aF) false],rbB 3 bl:=fun o bl n=>by
  simp only[tw,tq,or_false]at n
  rcases n with rfl | rfl | rfl
  .rw[<-X];exact cW _ _ _ _
  .exact ccB_rb _ _ _ _
  .exact rows_rb _ _ _ _
 have P:∀o E:List (List Int),∀bl∈[B.cells [.str t.name,.lst 1 f (t.attrs.map V.str),.lst 2 g (R.map aF)],B.cells [.lst 1 f2 (c.l.map aG),.int .i64 c.r,.lst 4 C (c.p.map av)],B.buf 71 2 (M.map aF) true,B.buf 58 1 (o.map (L1 true)) false,B.buf 58 1 (E.map (L1 true)) false],rbB 5 bl:=fun o E bl n=>by
  simp only[tw,tq,or_false]at n
  rcases n with rfl | rfl | rfl | rfl | rfl
  .rw[<-X];exact cW _ _ _ _
  .exact ccB_rb _ _ _ _
  .exact rows_rb _ _ _ _
  .exact oe _ _ _
  .exact oe _ _ _
 have z:∀(r:Rw) (o E:List (List Int)),∀bl∈[B.cells [.str t.name,.lst 1 f (t.attrs.map V.str),.lst 2 g (R.map aF)],B.cells [.lst 1 f2 (c.l.map aG),.int .i64 c.r,.lst 4 C (c.p.map av)],B.buf 71 2 (M.map aF) true,B.buf 58 1 (o.map (L1 true)) false,B.buf 58 1 (E.map (L1 true)) false,B.cells [.int .i64 r.id,.lst 3 false (r.vals.map aP)]],rbB 6 bl:=fun r o E bl n=>by
  simp only[tw,tq,or_false]at n
  rcases n with rfl | rfl | rfl | rfl | rfl | rfl
  .rw[<-X];exact cW _ _ _ _
  .exact ccB_rb _ _ _ _
  .exact rows_rb _ _ _ _
  .exact oe _ _ _
  .exact oe _ _ _
  .exact rcB_rb _ _
 refine fo (aH (tkf 58) func152 rfl rfl ?_);refine W_x (tkf 58) mixed ?_;simp -dsimp[f152,tg,aD,ac,LR,LS,LCl,hR.symm,L1,aL];refine cPx c1 ?_;simp -dsimp[L1,aL];refine cPx c2 ?_;simp -dsimp[L1,aL];refine aI (bh 71 2 [7] ζ (W_loopM 43 0x7ffc0000280 zMx (σ:=Nat×List Rw) (fun p=>p.2++(R.drop p.1).filter (gZ c)=M) (fun p=>R.length-p.1) (fun p=>[(30,.int .i64 p.1),(7,.buf 2 0 p.2.length p.2.length)]) (fun p=>[B.cells [.str t.name,.lst 1 f (t.attrs.map V.str),.lst 2 g (R.map aF)],B.cells [.lst 1 f2 (c.l.map aG),.int .i64 c.r,.lst 4 C (c.p.map av)],B.buf 71 2 (p.2.map aF) false]) (0,[]) (by rw[hM];rfl) ζ ζ ζ ?_));rintro⟨i,ms⟩ hx N Q hN hQ;simp only at hx;by_cases hb:i<R.length
 .have A:=O _ (ti hb);rw[th hb]at hx;obtain⟨r,v⟩:=ξ (R[i]);rw[<-v]at hx A;have c3:=left_u c r f2 C false t.attrs.length A S.l S.p S.lb;simp only[ac,L1,LCl,LV]at c3
  cases hq:gZ c r with
  | false =>
   rw[hq]at c3;rw[vu (by simp[hq])]at hx;refine W_x (tkf 58) mixed ?_;simp -dsimp[hb,v.symm,aF,LV,L1,aL];refine cPx c3 ?_;simp -dsimp[aE i ω,L1,aL];refine hN (i+1,ms) _ _ hx θ ζ ⟨[B.cells [.int .i64 r.id,.lst 3 false (r.vals.map aP)]],ζ⟩ ζ (ay _)
  | true =>
   rw[hq]at c3;rw[vr hq]at hx
   have a7:ms.length<=8:=by rw[<-hx]at L;simp only[uB]at L;omega
   refine W_x (tkf 58) mixed ?_;simp -dsimp[hb,v.symm,aF,LV,L1,aL];refine cPx c3 ?_;simp -dsimp[cap32r ms.length ω,bA ms.length ω,aE i ω,L1,aL];refine hN (i+1,ms++[r]) _ _ (by rw[<-hx];simp) θ ζ ⟨[B.cells [.int .i64 r.id,.lst 3 false (r.vals.map aP)]],by simp[aF,LV]⟩ ζ (ay _)
 .rw[tj (show R.length<=i by omega),wn,uC]at hx;subst hx;refine dv 2 [7] rfl ζ ?_;refine W_x (tkf 58) mixed ?_;simp -dsimp[hb,L1,aL];apply hQ;simp -dsimp[L1,aL];refine aI (bh 58 1 [10] ζ (bh 58 1 [11] ζ (W_loopM 91 0x7ffffffffffe0000000bc00 zMx (σ:=Nat×List (List Int)×List (List Int)) (fun p=>p.2.1++((ms.drop p.1).filter fun r=>!jK c r).map (fun r=>[r.id])=S1/\p.2.2++prL (gW c) (ms.drop p.1)=S2) (fun p=>ms.length-p.1) (fun p=>[(45,.int .i64 p.1),(10,.buf 3 0 p.2.1.length p.2.1.length),(11,.buf 4 0 p.2.2.length p.2.2.length)]) (fun p=>[B.cells [.str t.name,.lst 1 f (t.attrs.map V.str),.lst 2 g (R.map aF)],B.cells [.lst 1 f2 (c.l.map aG),.int .i64 c.r,.lst 4 C (c.p.map av)],B.buf 71 2 (ms.map aF) true,B.buf 58 1 (p.2.1.map (L1 true)) false,B.buf 58 1 (p.2.2.map (L1 true)) false]) (0,[],[]) ⟨by rw[U];rfl,by rw[T];rfl⟩ ζ ζ ζ ?_)));rintro⟨i,G,E⟩ ⟨b,q⟩ N Q hN hQ;simp only at b q;by_cases hb:i<ms.length
  .rw[fil_cons hb]at b;rw[nU hb]at q;have A:=Z _ (ti hb);obtain⟨r,v⟩:=ξ (ms[i]);rw[<-v]at b q A;obtain⟨k,hk⟩:=vM S.r0;have a2:=S.r1
   have Y:k<r.vals.length:=by omega
   obtain⟨x,al⟩:=ξ (r.vals[k]);obtain⟨y,an⟩:=ξ (qZ c.p c.l.length)
   have az:jK c r=clF y x:=by unfold jK;rw[hk,cQ Y,<-al,<-an]
   have c4:=fits_u y x;rw[<-az]at c4;rw[<-an]at cr;simp only[av,aP]at c4 cr;have ax:(ms.map aF).take ms.length=ms.map aF:=uY ζ
   have K:∀x∈(ms.map aF).drop (i+1),AM.Pure x:=fun x hx=>by
    obtain⟨y,_,rfl⟩:=List.mem_map.1 (vF hx);exact encRw_pure y
   have a8:G.length<=8:=by rw[<-b]at ad;simp only[uB]at ad;omega
   cases hq:jK c r with
   | true =>
    rw[hq]at c4;rw[hq,yJ,if_neg ζ,uL]at b;refine W_x (tkf 58) mixed ?_;simp -dsimp[hb,v.symm,aF,LV,L1,aL];refine sTx ?_;refine cQx cr ?_;simp -dsimp[hk,Y,al.symm,aP,L1,aL];refine cQx c4 ?_;simp -dsimp[aE i ω,(ω:(0:Int)<=(i:Int)+1),(ω:i+1<=ms.length),ax,L1,aL];refine aI (W_loopM 90 0x3ffff800000000000008800 zMx (σ:=Nat×List (List Int)) (fun p=>p.2++((((ms.drop (i+1+p.1)).filter (gW c r)).map fun s=>[r.id,s.id])++prL (gW c) (ms.drop (i+1)))=S2) (fun p=>ms.length-p.1) (fun p=>[(71,.int .i64 p.1),(11,.buf 4 0 p.2.length p.2.length)]) (fun p=>[B.cells [.str t.name,.lst 1 f (t.attrs.map V.str),.lst 2 g (R.map aF)],B.cells [.lst 1 f2 (c.l.map aG),.int .i64 c.r,.lst 4 C (c.p.map av)],B.buf 71 2 (ms.map aF) true,B.buf 58 1 ((G).map (L1 true)) false,B.buf 58 1 (p.2.map (L1 true)) false,B.cells [.int .i64 r.id,.lst 3 false (r.vals.map aP)]]) (0,E) q ζ (by simp[L1,aG,aF,LV,hk]) ζ ?_);rintro⟨m,D⟩ a N2 Q2 H W;simp only at a;by_cases w:m<ms.length-(i+1)
    .have d:i+1+m<ms.length:=by omega
     rw[lR d]at a;have F:=Z _ (ti d);obtain⟨s,u⟩:=ξ (ms[i+1+m]);rw[<-u]at a F;have I:=pairC_u c r s f2 C false false t.attrs.length S A F;simp only[ac,L1,LCl,LV]at I
     have aJ:D.length<=64:=by rw[<-a]at j;simp only[uB]at j;omega
     cases J:gW c r s with
     | false =>
      rw[J]at I a;rw[if_neg ζ,uL]at a;refine W_x (tkf 58) mixed ?_;simp -dsimp[w,d,u.symm,aF,LV,L1,aL];refine cPx I ?_;simp -dsimp[aE m ω,L1,aL];refine H (m+1,D) _ _ a θ ζ ⟨[B.cells [.int .i64 s.id,.lst 3 false (s.vals.map aP)]],ζ⟩ (by simp;exact K) (z _ _ _)
     | true =>
      rw[J]at I a;rw[if_pos rfl]at a;refine W_x (tkf 58) mixed ?_;simp -dsimp[w,d,u.symm,aF,LV,L1,aL];refine cPx I ?_;simp -dsimp[eb D.length ω,bA D.length ω,aE m ω,L1,aL];refine H (m+1,D++[[r.id,s.id]]) _ _ (by rw[<-a];simp[vU]) θ ζ ⟨[B.cells [.int .i64 s.id,.lst 3 false (s.vals.map aP)]],by simp[aG,L1]⟩ (by simp;exact K) (z _ _ _)
    .rw[tj (show ms.length<=i+1+m by omega)]at a;refine W_x (tkf 58) mixed ?_;simp -dsimp[w,L1,aL];apply W;simp -dsimp[aE i ω,L1,aL];refine hN (i+1,G,D) _ _ ⟨b,by simpa using a⟩ θ (by simp[hk]) ⟨[B.cells [.int .i64 r.id,.lst 3 false (r.vals.map aP)]],by simp[hk,L1,aG]⟩ ζ (P _ _)
   | false =>
    rw[hq]at c4;rw[hq,xT,if_pos rfl]at b;refine W_x (tkf 58) mixed ?_;simp -dsimp[hb,v.symm,aF,LV,L1,aL];refine sTx ?_;refine cQx cr ?_;simp -dsimp[hk,Y,al.symm,aP,L1,aL];refine cQx c4 ?_;simp -dsimp[aE i ω,(ω:(0:Int)<=(i:Int)+1),(ω:i+1<=ms.length),ax,eb G.length ω,bA G.length ω,L1,aL];refine aI (W_loopM 90 0x3ffff800000000000008800 zMx (σ:=Nat×List (List Int)) (fun p=>p.2++((((ms.drop (i+1+p.1)).filter (gW c r)).map fun s=>[r.id,s.id])++prL (gW c) (ms.drop (i+1)))=S2) (fun p=>ms.length-p.1) (fun p=>[(71,.int .i64 p.1),(11,.buf 4 0 p.2.length p.2.length)]) (fun p=>[B.cells [.str t.name,.lst 1 f (t.attrs.map V.str),.lst 2 g (R.map aF)],B.cells [.lst 1 f2 (c.l.map aG),.int .i64 c.r,.lst 4 C (c.p.map av)],B.buf 71 2 (ms.map aF) true,B.buf 58 1 ((G++[[r.id]]).map (L1 true)) false,B.buf 58 1 (p.2.map (L1 true)) false,B.cells [.int .i64 r.id,.lst 3 false (r.vals.map aP)]]) (0,E) q ζ (by simp[L1,aG,aF,LV,hk]) ζ ?_);rintro⟨m,D⟩ a N2 Q2 H W;simp only at a;by_cases w:m<ms.length-(i+1)
    .have d:i+1+m<ms.length:=by omega
     rw[lR d]at a;have F:=Z _ (ti d);obtain⟨s,u⟩:=ξ (ms[i+1+m]);rw[<-u]at a F;have I:=pairC_u c r s f2 C false false t.attrs.length S A F;simp only[ac,L1,LCl,LV]at I
     have aJ:D.length<=64:=by rw[<-a]at j;simp only[uB]at j;omega
     cases J:gW c r s with
     | false =>
      rw[J]at I a;rw[if_neg ζ,uL]at a;refine W_x (tkf 58) mixed ?_;simp -dsimp[w,d,u.symm,aF,LV,L1,aL];refine cPx I ?_;simp -dsimp[aE m ω,L1,aL];refine H (m+1,D) _ _ a θ ζ ⟨[B.cells [.int .i64 s.id,.lst 3 false (s.vals.map aP)]],by simp[L1,aG]⟩ (by simp;exact K) (z _ _ _)
     | true =>
      rw[J]at I a;rw[if_pos rfl]at a;refine W_x (tkf 58) mixed ?_;simp -dsimp[w,d,u.symm,aF,LV,L1,aL];refine cPx I ?_;simp -dsimp[eb D.length ω,bA D.length ω,aE m ω,L1,aL];refine H (m+1,D++[[r.id,s.id]]) _ _ (by rw[<-a];simp[vU]) θ ζ ⟨[B.cells [.int .i64 s.id,.lst 3 false (s.vals.map aP)]],by simp[aG,L1,hk]⟩ (by simp;exact K) (z _ _ _)
    .rw[tj (show ms.length<=i+1+m by omega)]at a;refine W_x (tkf 58) mixed ?_;simp -dsimp[w,L1,aL];apply W;simp -dsimp[aE i ω,L1,aL];refine hN (i+1,G++[[r.id]],D) _ _ ⟨(by rw[<-b];simp),by simpa using a⟩ θ (by simp[hk]) ⟨[B.cells [.int .i64 r.id,.lst 3 false (r.vals.map aP)]],by simp[hk,L1,aG]⟩ ζ (P _ _)
  .rw[tj (show ms.length<=i by omega),wn,wP,uC]at b;rw[tj (show ms.length<=i by omega),prL,uC]at q;subst b;subst q;refine dv 4 [11] rfl ζ ?_;have a6:G.length<=8:=ad;have ba:E.length<=64:=j;by_cases h0:E=[]
   .subst h0;refine W_x (tkf 58) mixed ?_;simp -dsimp[hb,L1,aL];apply hQ;simp -dsimp[L1,aL];refine⟨pQ (oC rfl ζ ?_),?_⟩
    all_goals simp[LT]
   .refine W_x (tkf 58) mixed ?_;simp -dsimp[hb,L1,aL];apply hQ;simp -dsimp[h0,(ω:G.length+E.length<=9223372036854775807),(ω:(G.length+E.length)*24<=140737488355328),L1,aL];refine⟨pQ (oC (e:=58) (fz:=false) (xs:=(G++E).map (L1 true)) ζ ζ ?_),?_⟩
    .intro x hx;obtain⟨y,_,rfl⟩:=List.mem_map.1 hx;exact L1_pure _ _
    .refine .lst _ _ _ fun x hx=>?_
     obtain⟨y,_,rfl⟩:=List.mem_map.1 hx;exact L1_pure _ _
end
end Go.Proofs.YtnaokiodhoadjaaGreatDoor
