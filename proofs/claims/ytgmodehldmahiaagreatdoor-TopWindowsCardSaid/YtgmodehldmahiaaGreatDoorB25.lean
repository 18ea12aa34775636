/- Part 25 of 53 of the proof of topAlone_and_topApart. Conditions: see each. -/
import Derived.Test.YtgmodehldmahiaaGreatDoorB14
import Derived.Test.YtgmodehldmahiaaGreatDoorB18
import Derived.Test.YtgmodehldmahiaaGreatDoorB17
set_option linter.unusedVariables false
set_option linter.unusedSimpArgs false
set_option maxRecDepth 8192
set_option maxHeartbeats 40000000
section
namespace Go.Proofs.YtgmodehldmahiaaGreatDoor
open Go Go.RowKit Go.Tm
attribute [local go_sem] fO fM fK d_ dM dZ dY dX dW dV dU dS dR dQ dP dO dN iQ iP iO iN iM iL iK iG iJ iI fU fT fQ fP fI fH fC
def JA(k:Kn)(mem:ByteArray)(x:qJ):Kn×Int×Int:=
 if x.2.1<k.ou.length then
  if(vN mem x.2.2.1 x.2.2.2).2=0 then
   if(k.ou.getD x.2.1.toNat (0,0,0,0,0)).2.2.2.1<(vN mem x.2.2.1 x.2.2.2).1.size then(k,0,4)
   else({k with se:=k.se++[(x.2.1,(vN mem x.2.2.1 x.2.2.2).1)]},0,0)
  else(k,0,(vN mem x.2.2.1 x.2.2.2).2)
 else(k,0,7)
noncomputable def zf(k:Kn)(p:aT.dz)(x:qJ):Kn×Int×Int:=JA k (pq p).mem x
theorem Z6:zP 171 zf:=by
 intro b s k p x w hw hk hx
 have HW:=ah hw
 obtain⟨r,hr⟩:∃r,r=zf k p x:=⟨_,rfl⟩
 rw[←hr]
 unfold zf JA at hr
 (rw[show aT.jQ p=.agg (iA p.pid p.par p.st (pq p)) from congrArg Value.agg (wM p)];have hq:=jR p;generalize pq p=q at*;generalize p.pid=pid at*;generalize p.par=par at*;generalize p.st=st at*;have HQ:=ah hq;clear hq)
 have hlt:=hw.lt
 have hse:=hk.se
 have hsl:=hw.kr.Ou
 obtain⟨a,cap,hv,hl⟩:=hsl.shape
 rw[aW.oG] at hv hl
 have hwr:IntKind.u64.wrap (k.ou.length:Int)=k.ou.length:=Rm
 have jW:=HQ.out.mem
 unfold maxLen at jW
 have HO:=ah (fun W=>PX q.mem x.2.2.1 x.2.2.2 W hx.2.2.1 hx.2.2.2 jW)
 generalize vN q.mem x.2.2.1 x.2.2.2=os at*
 obtain⟨o1,o2⟩:=os
 dsimp only at HO hr
 have HR:=ah hr
 have hA:=hx.2.1
 obtain⟨MX,MW⟩:=hA
 have hv0:=qY pid par st q
 rw[hv] at hsl
 have HOU:=ah hsl
 clear hw hr hsl
 by_cases h1:x.2.1<k.ou.length
 rotate_left
 ·have hr:=HR.out
  rw[if_neg h1] at hr
  have e1:decide ((k.ou.length:Int)≤x.2.1)=true:=decide_eq_true aj
  subst hr
  go_enter Tryz.func171,Tryz.ntmps171
  go_wp2_with fail
  (generalize bR:World.alloc _ _=w0;have KP:aD w0 (w.heap.size) (iA pid par st q) 126:=bH;have KX:aD w0 (w.heap.size+1) (#[.int .u32 x.1,.int .u32 x.2.1,.int .u32 x.2.2.1,.int .u32 x.2.2.2]) 124:=bH;have hb0:Below w.heap.size w w0:=bN;have hz0:w0.heap.size=w.heap.size+1+1:=bX;clear bR;have KP:=ah KP;have KX:=ah KX)
  ((try clear hcb bC bn bA bE);have bg:=HW.out.below hb0;obtain⟨hcb,bC,bn,bA,bE⟩:=aD.rules bg.box;have lG:=ah bg;clear bg)
  ((try clear gL iZ hlx iY hmx);have bx0:=KX.out;obtain⟨gL,iZ,hlx,iY,hmx⟩:=aD.rules bx0;have wL:=ah bx0;clear bx0)
  go_region
  go_wp2_with fail
  exact bodyPost_ret (v:= .tuple #[.int .u32 0,.int .i64 7]) O_ rfl ⟨rfl,⟨s,HW.out.below aG,fun _ _ _ h=>h⟩,aA aG _⟩
 obtain⟨m,hm⟩:∃m:Nat,x.2.1=m:=⟨x.2.1.toNat,aj⟩
 obtain⟨x1,xa,xb,xc⟩:=x
 dsimp only at*
 subst hm
 have e1:decide ((k.ou.length:Int)≤(m:Int))=false:=decide_eq_false aj
 go_enter Tryz.func171,Tryz.ntmps171
 go_wp2_with fail
 (generalize bR:World.alloc _ _=w0;have KP:aD w0 (w.heap.size) (iA pid par st q) 126:=bH;have KX:aD w0 (w.heap.size+1) (#[.int .u32 x1,.int .u32 m,.int .u32 xb,.int .u32 xc]) 124:=bH;have hb0:Below w.heap.size w w0:=bN;have hz0:w0.heap.size=w.heap.size+1+1:=bX;clear bR;have KP:=ah KP;have KX:=ah KX)
 ((try clear hcb bC bn bA bE);have bg:=HW.out.below hb0;obtain⟨hcb,bC,bn,bA,bE⟩:=aD.rules bg.box;have lG:=ah bg;clear bg)
 ((try clear gL iZ hlx iY hmx);have bx0:=KX.out;obtain⟨gL,iZ,hlx,iY,hmx⟩:=aD.rules bx0;have wL:=ah bx0;clear bx0)
 ((try clear fF h_ gF gQ g_);have bx0:=KP.out;obtain⟨fF,h_,gF,gQ,g_⟩:=aD.rules bx0;have rJ:=ah bx0;clear bx0)
 go_region
 go_wp2_with fail
 with_reducible refine(HO.out _).mono ?_
 rintro en w1 ⟨rfl,hb1⟩
 have akQ:Below w0.heap.size w0 w1:=aG
 have bW:=hb0.trans (akQ.mono hb0.size)
 ((try clear hcb bC bn bA bE);have bg:=lG.out.below akQ;obtain⟨hcb,bC,bn,bA,bE⟩:=aD.rules bg.box;have qA:=ah bg;clear bg)
 ((try clear gL iZ hlx iY hmx);have bx0:=wL.out.below akQ wL.out.lt;obtain⟨gL,iZ,hlx,iY,hmx⟩:=aD.rules bx0;have FT:=ah bx0;clear bx0)
 clear fF h_ gF gQ g_ hb1
 have hr:=HR.out
 rw[if_pos h1] at hr
 by_cases h2:o2=0
 rotate_left
 ·rw[if_neg h2] at hr
  have e2:(o2 !=0)=true:=uR
  subst hr
  go_wp2_with fail
  exact bodyPost_ret (v:= .tuple #[.int .u32 0,.int .i64 o2]) O_ rfl ⟨rfl,⟨s,HW.out.below bW,fun _ _ _ h=>h⟩,aA bW _⟩
 rw[if_pos h2] at hr
 subst h2
 obtain⟨c,hc⟩:∃c,k.ou[m]?=some c:=⟨_,List.getElem?_eq_getElem aj⟩
 rw[Int.toNat_natCast,List.getD_eq_getElem?_getD,hc,Option.getD_some] at hr
 have Ov:=HOU.out.below bW
 obtain⟨b2,off,rfl,hb2,hcell⟩:=Ov.at (i:=m) (x:=aW.uG c) (aW.Av hc)
 have c3:w1.cell? ⟨b2,off+m*5+3,none⟩=some (.int .i64 c.2.2.2.1):=by simpa using hcell 3 (.int .i64 c.2.2.2.1) rfl
 have hm0:(0:Int)≤(m:Int):=aj
 by_cases h3:c.2.2.2.1<o1.size
 ·rw[if_pos h3] at hr
  have e3:decide (c.2.2.2.1<(o1.size:Int))=true:=decide_eq_true h3
  subst hr
  go_wp2_with fail
  go_region
  go_wp2_with fail
  exact bodyPost_ret (v:= .tuple #[.int .u32 0,.int .i64 4]) O_ rfl ⟨rfl,⟨s,HW.out.below (bW.drew),fun _ _ _ h=>h⟩,aA (bW.drew) _⟩
 rw[if_neg h3] at hr
 have e3:decide (c.2.2.2.1<(o1.size:Int))=false:=decide_eq_false h3
 subst hr
 go_wp2_with fail
 go_region
 go_wp2_with fail
 (have hd2:Below w1.heap.size w1 w1.drew:=(Below.refl _ _).drew;generalize w1.drew=w2 at hd2⊢)
 ((try clear hcb bC bn bA bE);have bg:=qA.out.below hd2;obtain⟨hcb,bC,bn,bA,bE⟩:=aD.rules bg.box;have tC:=ah bg;clear bg)
 ((try clear gL iZ hlx iY hmx);have bx0:=FT.out.below hd2 FT.out.lt;obtain⟨gL,iZ,hlx,iY,hmx⟩:=aD.rules bx0;have Um:=ah bx0;clear bx0)
 have bM:=bW.trans (hd2.mono bW.size)
 obtain⟨i0,hM⟩:=ald
 have hwm:IntKind.i64.wrap (m:Int)=m:=IntWalk.i64_in _ aj
 clear c3 hcell Ov
 ((refine aY (fun W=>Below w2.heap.size w2 W) (fun i=>decide (i<17)) ay ?_);
          have hS:Below w2.heap.size w2 w2.drew:=(Below.refl _ _).drew;
          (refine tk 0 49 hS ?_);
          (refine tk 1 50 hS ?_);
          (refine tk 2 51 hS ?_);
          (refine tk 3 52 hS ?_);
          (refine tk 4 53 hS ?_);
          (refine tk 5 54 hS ?_ (hy:=Or.inl ⟨aF,Bo⟩));
          (refine tk 7 56 hS ?_);
          (refine tk 8 57 hS ?_ (hy:=Or.inl ⟨aF,Bo⟩));
          (refine tk 9 58 hS ?_);
          (refine tk 10 59 hS ?_);
          (refine tk 11 60 hS ?_);
          (refine eX 6 12 (oi:=⟨some 55,_,_,_,_,_⟩) (oj:=⟨some 61,_,_,_,_,_⟩) rfl rfl ay rfl rfl (fun K hK=>?_) (fun K hK=>?_));
          (focus((go_simp;(with_reducible refine(YB s.Se (k.se.map LM) _ (tC.out.kr.Se.below hS)).mono ?_);rintro en w6 ⟨⟨ao,rfl,nO⟩,rfl⟩;have Uq:=ah nO;clear nO;(try go_wp2_with fail));(refine hK.out _ _ (fun _=>b_) ?_;clear hK K);(try simp only[pt]);(refine aJ 12 (oi:=⟨some 61,_,_,_,_,_⟩) rfl ay rfl (fun K hK=>?_));(refine mK _ rfl hM aC (LM ((m:Int),o1)) (by simp[Act.eval,Act.put,hwm]) (JB _) ?_);(refine hidS hK (hS.alloc hS.size _) (fun hS=>?_);clear hK K);(try simp only[pt]);(have HY:=Sl.pQ (w:=w2.drew) (E:=136) (JB ((m:Int),o1)) rfl;have hd8:Below w2.drew.heap.size w2.drew (w2.drew.alloc (.cells (LM ((m:Int),o1)).cells 136)):=(Below.refl _ _).alloc (Nat.le_refl _) _;generalize w2.drew.alloc (.cells (LM ((m:Int),o1)).cells 136)=w8 at hS HY hd8⊢);exact aml));
          (focus((refine mK _ rfl hM aC (LM ((m:Int),o1)) (by simp[Act.eval,Act.put,hwm]) (JB _) ?_);(refine hidS hK (hS.alloc hS.size _) (fun hS=>?_);clear hK K);(try simp only[pt]);(have HY:=Sl.pQ (w:=w2.drew) (E:=136) (JB ((m:Int),o1)) rfl;have hd8:Below w2.drew.heap.size w2.drew (w2.drew.alloc (.cells (LM ((m:Int),o1)).cells 136)):=(Below.refl _ _).alloc (Nat.le_refl _) _;generalize w2.drew.alloc (.cells (LM ((m:Int),o1)).cells 136)=w8 at hS HY hd8⊢);(refine aJ 6 (oi:=⟨some 55,_,_,_,_,_⟩) rfl ay rfl (fun K hK=>?_));(go_simp;(with_reducible refine(YB s.Se (k.se.map LM) _ (tC.out.kr.Se.below hS)).mono ?_);rintro en w6 ⟨⟨ao,rfl,nO⟩,rfl⟩;have Uq:=ah nO;clear nO;(try go_wp2_with fail));(refine hK.out _ _ (fun _=>b_) ?_;clear hK K);(try simp only[pt]);exact aml)))
end Go.Proofs.YtgmodehldmahiaaGreatDoor
end
section
namespace Go.Proofs.YtgmodehldmahiaaGreatDoor
open Go Go.RowKit Go.Tm
theorem aac{P:Program}{E:TypeId}{ag:Bool}{k:Nat}{w:World}{v:Value}{xs:List Value}{t:TypeId}(T:Ty P E k ag)(ht:P.underlying t=some (.slice E))(h:Sl w ag k v xs)(hne:1≤xs.length):
  ∃v',(∀W,(Instr.slice t v (some (.int .i64 1)) (some (.int .i64 xs.length)) (some (.int .i64 xs.length))).run P W=.ok v' W)∧Sl w ag k v' (xs.drop 1):=by
 obtain⟨i,hi,hs⟩:=uq T
 obtain⟨hv,a,cap,rfl,h1,h2,h3⟩:=h
 have hle:(1:Int)≤xs.length:=aj
 refine⟨.slice (if xs.length=1 then a else a.map (·.add (1*k))) (xs.length-1) (xs.length-1),fun W=>?_,fun x hx=>hv x (List.mem_of_mem_drop hx),(if xs.length=1 then a else a.map (·.add (1*k))),xs.length-1,by rw[List.length_drop],by rw[List.length_drop];exact Nat.le_refl _,aj,?_⟩
 ·simp[Instr.slice,run_underlying ht,Instr.sliceBounds,Instr.sliceBound,asIntOf,sizeOf,typeInfo,hi,hs,hne,h1,hle]
 ·rcases h3 with rfl|⟨b,off,rfl,hb,hc⟩
  ·simp at hne
  ·by_cases hcm:xs.length=1
   ·left
    exact List.drop_of_length_le aj
   ·right
    refine⟨b,off+1*k,Vh,hb,fun j x hx=>?_⟩
    rw[List.getElem?_drop] at hx
    have:=hc (1+j) x hx
    rwa[Nat.add_mul,←Nat.add_assoc] at this
def ms0:Ms:=(0,⟨#[]⟩)
theorem DL(l:List Ms):(l.map Bg).length=l.length:=by simp
theorem aeZ(c:aW.Ch)(u:Value)(ms:List Ms)(lost:Int)(w:World)(hu:Sl w true 2 u (ms.map Bg)):
  Calls Tryz.prog 213 #[aW.uG c,.agg #[u,.int .i64 lost]] w fun en w'=>en=.returned (.tuple #[Bg (ms.headD ms0),.bool (!ms.isEmpty)])∧Below w.heap.size w w':=by
 obtain⟨a,cap,rfl,hl⟩:=hu.shape
 rw[DL] at hl hu⊢
 cases ms with
 |nil=>
  clear hu
  go_enter Tryz.func213,Tryz.ntmps213
  go_wp2_with fail
  exact bodyPost_ret (v:= .tuple #[Bg ms0,.bool false]) (by simp[results,Tryz.results213,go_sem,ms0]) rfl ⟨rfl,aG⟩
 |cons m r=>
  obtain⟨b,off,rfl,hb,hcell⟩:=hu.at (i:=0) (x:=Bg m) rfl
  have c0:w.cell? ⟨b,off,none⟩=some (.int .u64 m.1):=by simpa using hcell 0 (.int .u64 m.1) rfl
  have c1:w.cell? ⟨b,off+1,none⟩=some (.string m.2):=by simpa using hcell 1 (.string m.2) rfl
  generalize hN:(m::r).length=N at*
  have hN1:1≤N:=by rw[←hN];simp
  have hN2:((N:Int)==0)=false:=qW
  have hN3:(0:Int)<N:=aj
  have mE:¬b=w.heap.size:=aj
  have rD:¬b=w.heap.size+1:=aj
  have wX:¬b=w.heap.size+1+1:=aj
  have HC:=ah (fun W (h:Below w.heap.size w W)=>Cells.below hcell h hb)
  clear hu hcell hN c0 c1
  go_enter Tryz.func213,Tryz.ntmps213
  go_wp2_with(first|((with_reducible refine cK 138 ?_);(refine aN rfl 138 _ rfl b ((off+0*2)) ?_ (Bg m) XP (JC m) (HC.out _ aG) ?_;(exact aM)))|fail)
  exact bodyPost_ret (v:= .tuple #[Bg m,.bool true]) (by simp[results,Tryz.results213,go_sem]) rfl ⟨rfl,aG⟩
def lT(c:aW.Ch)(ms:List Ms):List Ms×Ms×Int:=if ms=[] then([],ms0,7) else(if c.1=1 then ms else ms.drop 1,ms.headD ms0,0)
theorem agH(c:aW.Ch)(u:Value)(ms:List Ms)(lost:Int)(w00:World)(hu:Sl w00 true 2 u (ms.map Bg)):
  ∃u',Sl w00 true 2 u' ((lT c ms).1.map Bg)∧∀w,Below w00.heap.size w00 w→Calls Tryz.prog 206 #[aW.uG c,.agg #[u,.int .i64 lost]] w fun en w'=>en=.returned (.tuple #[.agg #[u',.int .i64 lost],Bg (lT c ms).2.1,.int .i64 (lT c ms).2.2])∧Below w.heap.size w w':=by
 have HP:=ah (fun W h=>aeZ c u ms lost W h)
 have Zv:=ah hu
 obtain⟨r,hr⟩:∃r,r=lT c ms:=⟨_,rfl⟩
 rw[←hr]
 unfold lT at hr
 have hd:=fun h=>aac (xs:=ms.map Bg) XP Tryz.underlying91 hu h
 rw[DL] at hd
 obtain⟨kd,fr,tt,sz,dp⟩:=c
 dsimp only at hr
 obtain⟨a,cap,rfl,hl⟩:=hu.shape
 rw[DL] at hl Zv HP hd⊢
 have hN:ms=[]∨1≤ms.length:=by cases ms<;>simp
 have hE:ms.isEmpty=decide (ms=[]):=by cases ms<;>simp
 rw[hE] at HP
 generalize hm:ms.headD ms0=m0 at*
 generalize hNN:ms.length=N at*
 rcases hN with h0|h1
 ·rw[if_pos h0] at hr
  rw[decide_eq_true h0] at HP
  have hm0:m0=ms0:=by rw[←hm,h0];rfl
  subst hr hm0
  clear hu hE hd hm
  refine⟨.slice a N cap,by have:=Zv.out;rw[h0] at this;exact this,fun w bZ=>?_⟩
  have HU:=ah (Zv.out.below bZ)
  go_enter Tryz.func206,Tryz.ntmps206
  go_wp2_with fail
  with_reducible refine(HP.out _ (HU.out.below aG)).mono ?_
  rintro en w1 ⟨rfl,hb1⟩
  have b1:aD w1 w.heap.size #[.int .i64 kd,.int .i64 fr,.int .i64 tt,.int .i64 sz,.int .i64 dp] 95:=sP;obtain⟨hc1,mF,jO,mE,oz⟩:=b1.rules;have K1:=ah b1;clear b1
  have b2:aD w1 (w.heap.size+1) #[.slice a N cap,.int .i64 lost] 93:=yY;obtain⟨hc2,hf2,hl2,rD,nS⟩:=b2.rules;have K2:=ah b2;clear b2
  have b3:aD w1 (w.heap.size+1+1) #[.slice none 0 0,.int .i64 0] 93:=yC;obtain⟨hc3,hf3,qM,wX,qL⟩:=b3.rules;have K3:=ah b3;clear b3
  have b4:aD w1 (w.heap.size+1+1+1) #[.int .u64 0,.string ⟨#[]⟩] 138:=BZ;obtain⟨QJ,xQ,hl4,GR,yR⟩:=b4.rules;have K4:=ah b4;clear b4
  go_wp2_with fail
  go_region
  go_wp2_with fail
  (generalize bR:World.drew _=wE;have hbE:Below w.heap.size w wE:=bN;have bE0:aD wE (w.heap.size+1+1) #[.slice a N cap,.int .i64 lost] 93:=Jq;have aku:=bE0.rules.1;have bE1:aD wE (w.heap.size+1+1+1) #[.int .u64 ms0.1,.string ms0.2] 138:=Vx;have akt:=bE1.rules.1;clear bR)
  exact bodyPost_ret (v:= .tuple #[.agg #[.slice a N cap,.int .i64 lost],Bg ms0,.int .i64 7]) ab' rfl ⟨rfl,hbE⟩
 ·rw[if_neg adp] at hr
  rw[decide_eq_false adp] at HP
  obtain⟨v1,hs1,hs2⟩:=hd h1
  have HS2:=ah hs2
  by_cases hk:kd=1
  ·subst hk
   rw[if_pos rfl] at hr
   subst hr
   clear hu hE hd hm hs2
   refine⟨.slice a N cap,Zv.out,fun w bZ=>?_⟩
   have HU:=ah (Zv.out.below bZ)
   go_enter Tryz.func206,Tryz.ntmps206
   go_wp2_with fail
   with_reducible refine(HP.out _ (HU.out.below aG)).mono ?_
   rintro en w1 ⟨rfl,hb1⟩
   have b1:aD w1 w.heap.size #[.int .i64 1,.int .i64 fr,.int .i64 tt,.int .i64 sz,.int .i64 dp] 95:=sP;obtain⟨hc1,mF,jO,mE,oz⟩:=b1.rules;have K1:=ah b1;clear b1
   have b2:aD w1 (w.heap.size+1) #[.slice a N cap,.int .i64 lost] 93:=yY;obtain⟨hc2,hf2,hl2,rD,nS⟩:=b2.rules;have K2:=ah b2;clear b2
   have b3:aD w1 (w.heap.size+1+1) #[.slice none 0 0,.int .i64 0] 93:=yC;obtain⟨hc3,hf3,qM,wX,qL⟩:=b3.rules;have K3:=ah b3;clear b3
   have b4:aD w1 (w.heap.size+1+1+1) #[.int .u64 0,.string ⟨#[]⟩] 138:=BZ;obtain⟨QJ,xQ,hl4,GR,yR⟩:=b4.rules;have K4:=ah b4;clear b4
   go_wp2_with fail
   go_region
   go_wp2_with fail
   (generalize bR:World.drew _=wE;have hbE:Below w.heap.size w wE:=bN;have bE0:aD wE (w.heap.size+1+1) #[.slice a N cap,.int .i64 lost] 93:=Jq;have aku:=bE0.rules.1;have bE1:aD wE (w.heap.size+1+1+1) #[.int .u64 m0.1,.string m0.2] 138:=Vx;have akt:=bE1.rules.1;clear bR)
   exact bodyPost_ret (v:= .tuple #[.agg #[.slice a N cap,.int .i64 lost],Bg m0,.int .i64 0]) ab' rfl ⟨rfl,hbE⟩
  ·have ek:(kd !=1)=true:=by simp[hk]
   rw[if_neg hk] at hr
   subst hr
   clear hu hE hd hm hs2
   obtain⟨a1,m1,n1,rfl⟩:=HS2.out.is
   refine⟨.slice a1 m1 n1,by rw[List.map_drop];exact HS2.out,fun w bZ=>?_⟩
   have HU:=ah (Zv.out.below bZ)
   go_enter Tryz.func206,Tryz.ntmps206
   go_wp2_with fail
   with_reducible refine(HP.out _ (HU.out.below aG)).mono ?_
   rintro en w1 ⟨rfl,hb1⟩
   have b1:aD w1 w.heap.size #[.int .i64 kd,.int .i64 fr,.int .i64 tt,.int .i64 sz,.int .i64 dp] 95:=sP;obtain⟨hc1,mF,jO,mE,oz⟩:=b1.rules;have K1:=ah b1;clear b1
   have b2:aD w1 (w.heap.size+1) #[.slice a N cap,.int .i64 lost] 93:=yY;obtain⟨hc2,hf2,hl2,rD,nS⟩:=b2.rules;have K2:=ah b2;clear b2
   have b3:aD w1 (w.heap.size+1+1) #[.slice none 0 0,.int .i64 0] 93:=yC;obtain⟨hc3,hf3,qM,wX,qL⟩:=b3.rules;have K3:=ah b3;clear b3
   have b4:aD w1 (w.heap.size+1+1+1) #[.int .u64 0,.string ⟨#[]⟩] 138:=BZ;obtain⟨QJ,xQ,hl4,GR,yR⟩:=b4.rules;have K4:=ah b4;clear b4
   go_wp2_with fail
   generalize hW2:World.alloc _ _=w2
   have b22:aD w2 (w.heap.size+1) #[.slice a1 m1 n1,.int .i64 lost] 93:=by rw[←hW2];exact(K2.out.set 0 _).alloc _
   have b23:aD w2 (w.heap.size+1+1) #[.slice none 0 0,.int .i64 0] 93:=by rw[←hW2];exact(K3.out.other _ _ (by first|(solve|simp)|(simp;omega))).alloc _
   have b24:aD w2 (w.heap.size+1+1+1) #[.int .u64 0,.string ⟨#[]⟩] 138:=by rw[←hW2];exact(K4.out.other _ _ (by first|(solve|simp)|(simp;omega))).alloc _
   have b25:aD w2 w1.heap.size #[.int .u64 m0.1,.string m0.2] 138:=by rw[←hW2];exact aD.p9 _ _ _ aI
   have bM:Below w.heap.size w w2:=by rw[←hW2];exact bl
   have q1:¬w1.heap.size=w.heap.size+1+1:=aj
   have q2:¬w1.heap.size=w.heap.size+1+1+1:=aj
   have q3:¬w1.heap.size=w.heap.size+1:=aj
   clear hc1 mF jO mE oz hc2 hf2 hl2 rD nS hc3 hf3 qM wX qL QJ xQ hl4 GR yR hW2 hb1 K1 K2 K3 K4
   obtain⟨hc2,hf2,hl2,rD,nS⟩:=aD.rules b22
   obtain⟨hc3,hf3,qM,wX,qL⟩:=aD.rules b23
   obtain⟨QJ,xQ,hl4,GR,yR⟩:=aD.rules b24
   obtain⟨hc5,hf5,hl5,hn5,hm5⟩:=aD.rules b25
   have K3:=ah b23
   have K4:=ah b24
   clear b22 b23 b24 b25
   go_region
   go_wp2_with fail
   (generalize bR:World.drew _=wE;have hbE:Below w.heap.size w wE:=bN;have bE0:aD wE (w.heap.size+1+1) #[.slice a1 m1 n1,.int .i64 lost] 93:=Jq;have aku:=bE0.rules.1;have bE1:aD wE (w.heap.size+1+1+1) #[.int .u64 m0.1,.string m0.2] 138:=Vx;have akt:=bE1.rules.1;clear bR)
   exact bodyPost_ret (v:= .tuple #[.agg #[.slice a1 m1 n1,.int .i64 lost],Bg m0,.int .i64 0]) ab' rfl ⟨rfl,hbE⟩
end Go.Proofs.YtgmodehldmahiaaGreatDoor
end
