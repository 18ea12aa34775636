/- Part 25 of 50 of the proof of topWindows_holds. Conditions: see each. -/
import Derived.Test.YtgmodehldmahiaaGreatDoorW14
import Derived.Test.YtgmodehldmahiaaGreatDoorW18
import Derived.Test.YtgmodehldmahiaaGreatDoorW17
set_option linter.unusedVariables false
set_option linter.unusedSimpArgs false
set_option maxRecDepth 8192
set_option maxHeartbeats 40000000
section
namespace Go.Proofs.YtgmodehldmahiaaGreatDoor
open Go Go.RowKit Go.Tm
attribute [local go_sem] fB fA fu dR dA dQ dP dO dN dM dL dK dJ dI dH dG dF iq ig h_ g_ gZ gY gX gN gW gV fF fE fD fC eY eX eU
def BX(k:Kn)(mem:ByteArray)(x:nW):Kn×Int×Int:=
 if x.2.1<k.ou.length then
  if(sD mem x.2.2.1 x.2.2.2).2=0 then
   if(k.ou.getD x.2.1.toNat (0,0,0,0,0)).2.2.2.1<(sD mem x.2.2.1 x.2.2.2).1.size then(k,0,4)
   else({k with se:=k.se++[(x.2.1,(sD mem x.2.2.1 x.2.2.2).1)]},0,0)
  else(k,0,(sD mem x.2.2.1 x.2.2.2).2)
 else(k,0,7)
noncomputable def sI(k:Kn)(p:Tab.bV)(x:nW):Kn×Int×Int:=BX k (pq p).mem x
theorem U6:wG 171 sI:=by
 intro b s k p x w hw hk hx
 have HW:=Lib.hid hw
 obtain⟨r,hr⟩:∃r,r=sI k p x:=⟨_,rfl⟩
 rw[←hr]
 unfold sI BX at hr
 ((rw[show Tab.je p=.agg (gu p.pid p.par p.st (pq p)) from congrArg Value.agg (sW p)]);(have hq:=iY p);(generalize pq p=q at*);(generalize p.pid=pid at*);(generalize p.par=par at*);(generalize p.st=st at*);(have HQ:=Lib.hid hq);(clear hq))
 have hlt:=hw.lt
 have hse:=hk.se
 have hsl:=hw.kr.Ou
 obtain⟨a,cap,hv,hl⟩:=hsl.shape
 rw[bf.qN] at hv hl
 have hwr:IntKind.u64.wrap (k.ou.length:Int)=k.ou.length:=Me
 have hmem:=HQ.out.mem
 unfold maxLen at hmem
 have HO:=Lib.hid (fun W=>Kz q.mem x.2.2.1 x.2.2.2 W hx.2.2.1 hx.2.2.2 hmem)
 generalize sD q.mem x.2.2.1 x.2.2.2=os at*
 obtain⟨o1,o2⟩:=os
 dsimp only at HO hr
 have HR:=Lib.hid hr
 have hA:=hx.2.1
 obtain⟨hA1,hA2⟩:=hA
 have hv0:=oz pid par st q
 rw[hv] at hsl
 have HOU:=Lib.hid hsl
 clear hw hr hsl
 by_cases h1:x.2.1<k.ou.length
 rotate_left
 ·have hr:=HR.out
  rw[if_neg h1] at hr
  have e1:decide ((k.ou.length:Int)≤x.2.1)=true:=decide_eq_true ah
  subst hr
  go_enter Tryz.func171,Tryz.ntmps171
  go_wp2_with fail
  ((generalize bN:World.alloc _ _=w0);(have KP:aC w0 (w.heap.size) (gu pid par st q) 126:=bA);(have KX:aC w0 (w.heap.size+1) (#[.int .u32 x.1,.int .u32 x.2.1,.int .u32 x.2.2.1,.int .u32 x.2.2.2]) 124:=bA);(have hb0:Below w.heap.size w w0:=bM);(have hz0:w0.heap.size=w.heap.size+1+1:=bX);(clear bN);(have KP:=Lib.hid KP);(have KX:=Lib.hid KX))
  ((try clear hcb bn hlb hnb hmb);(have aW:=HW.out.below hb0);(obtain⟨hcb,bn,hlb,hnb,hmb⟩:=aC.rules aW.box);(have jV:=Lib.hid aW);(clear aW))
  ((try clear hcx hfx hlx hnx hmx);(have bx0:=KX.out);(obtain⟨hcx,hfx,hlx,hnx,hmx⟩:=aC.rules bx0);(have sV:=Lib.hid bx0);(clear bx0))
  go_region
  go_wp2_with fail
  exact bodyPost_ret (v:= .tuple #[.int .u32 0,.int .i64 7]) Fb rfl ⟨rfl,⟨s,HW.out.below aD,fun _ _ _ h=>h⟩,ay aD _⟩
 obtain⟨m,hm⟩:∃m:Nat,x.2.1=m:=⟨x.2.1.toNat,ah⟩
 obtain⟨x1,xa,xb,xc⟩:=x
 dsimp only at*
 subst hm
 have e1:decide ((k.ou.length:Int)≤(m:Int))=false:=decide_eq_false ah
 go_enter Tryz.func171,Tryz.ntmps171
 go_wp2_with fail
 ((generalize bN:World.alloc _ _=w0);(have KP:aC w0 (w.heap.size) (gu pid par st q) 126:=bA);(have KX:aC w0 (w.heap.size+1) (#[.int .u32 x1,.int .u32 m,.int .u32 xb,.int .u32 xc]) 124:=bA);(have hb0:Below w.heap.size w w0:=bM);(have hz0:w0.heap.size=w.heap.size+1+1:=bX);(clear bN);(have KP:=Lib.hid KP);(have KX:=Lib.hid KX))
 ((try clear hcb bn hlb hnb hmb);(have aW:=HW.out.below hb0);(obtain⟨hcb,bn,hlb,hnb,hmb⟩:=aC.rules aW.box);(have jV:=Lib.hid aW);(clear aW))
 ((try clear hcx hfx hlx hnx hmx);(have bx0:=KX.out);(obtain⟨hcx,hfx,hlx,hnx,hmx⟩:=aC.rules bx0);(have sV:=Lib.hid bx0);(clear bx0))
 ((try clear hcp hfp hlp hnp hmp);(have bx0:=KP.out);(obtain⟨hcp,hfp,hlp,hnp,hmp⟩:=aC.rules bx0);(have oM:=Lib.hid bx0);(clear bx0))
 go_region
 go_wp2_with fail
 with_reducible refine(HO.out _).mono ?_
 rintro en w1 ⟨rfl,hb1⟩
 have af_:Below w0.heap.size w0 w1:=aD
 have bP:=hb0.trans (af_.mono hb0.size)
 ((try clear hcb bn hlb hnb hmb);(have aW:=jV.out.below af_);(obtain⟨hcb,bn,hlb,hnb,hmb⟩:=aC.rules aW.box);(have nL:=Lib.hid aW);(clear aW))
 ((try clear hcx hfx hlx hnx hmx);(have bx0:=sV.out.below af_ sV.out.lt);(obtain⟨hcx,hfx,hlx,hnx,hmx⟩:=aC.rules bx0);(have CV:=Lib.hid bx0);(clear bx0))
 clear hcp hfp hlp hnp hmp hb1
 have hr:=HR.out
 rw[if_pos h1] at hr
 by_cases h2:o2=0
 rotate_left
 ·rw[if_neg h2] at hr
  have e2:(o2 !=0)=true:=rG
  subst hr
  go_wp2_with fail
  exact bodyPost_ret (v:= .tuple #[.int .u32 0,.int .i64 o2]) Fb rfl ⟨rfl,⟨s,HW.out.below bP,fun _ _ _ h=>h⟩,ay bP _⟩
 rw[if_pos h2] at hr
 subst h2
 obtain⟨c,hc⟩:∃c,k.ou[m]?=some c:=⟨_,List.getElem?_eq_getElem ah⟩
 rw[Int.toNat_natCast,List.getD_eq_getElem?_getD,hc,Option.getD_some] at hr
 have hsl1:=HOU.out.below bP
 obtain⟨b2,off,rfl,hb2,hcell⟩:=hsl1.at (i:=m) (x:=bf.uI c) (bf.El hc)
 have c3:w1.cell? ⟨b2,off+m*5+3,none⟩=some (.int .i64 c.2.2.2.1):=by simpa using hcell 3 (.int .i64 c.2.2.2.1) rfl
 have hm0:(0:Int)≤(m:Int):=ah
 by_cases h3:c.2.2.2.1<o1.size
 ·rw[if_pos h3] at hr
  have e3:decide (c.2.2.2.1<(o1.size:Int))=true:=decide_eq_true h3
  subst hr
  go_wp2_with fail
  go_region
  go_wp2_with fail
  exact bodyPost_ret (v:= .tuple #[.int .u32 0,.int .i64 4]) Fb rfl ⟨rfl,⟨s,HW.out.below (bP.drew),fun _ _ _ h=>h⟩,ay (bP.drew) _⟩
 rw[if_neg h3] at hr
 have e3:decide (c.2.2.2.1<(o1.size:Int))=false:=decide_eq_false h3
 subst hr
 go_wp2_with fail
 go_region
 go_wp2_with fail
 ((have hd2:Below w1.heap.size w1 w1.drew:=(Below.refl _ _).drew);(generalize w1.drew=w2 at hd2⊢))
 ((try clear hcb bn hlb hnb hmb);(have aW:=nL.out.below hd2);(obtain⟨hcb,bn,hlb,hnb,hmb⟩:=aC.rules aW.box);(have qg:=Lib.hid aW);(clear aW))
 ((try clear hcx hfx hlx hnx hmx);(have bx0:=CV.out.below hd2 CV.out.lt);(obtain⟨hcx,hfx,hlx,hnx,hmx⟩:=aC.rules bx0);(have OB:=Lib.hid bx0);(clear bx0))
 have hbw2:=bP.trans (hd2.mono bP.size)
 obtain⟨i0,hM⟩:=agz
 have hwm:IntKind.i64.wrap (m:Int)=m:=IntWalk.i64_in _ ah
 clear c3 hcell hsl1
 ((refine aY (fun W=>Below w2.heap.size w2 W) (fun i=>decide (i<17)) aj ?_);
          (have hS:Below w2.heap.size w2 w2.drew:=(Below.refl _ _).drew);
          (refine tk 0 49 hS ?_);
          (refine tk 1 50 hS ?_);
          (refine tk 2 51 hS ?_);
          (refine tk 3 52 hS ?_);
          (refine tk 4 53 hS ?_);
          (refine tk 5 54 hS ?_ (hy:=Or.inl ⟨aF,yt⟩));
          (refine tk 7 56 hS ?_);
          (refine tk 8 57 hS ?_ (hy:=Or.inl ⟨aF,yt⟩));
          (refine tk 9 58 hS ?_);
          (refine tk 10 59 hS ?_);
          (refine tk 11 60 hS ?_);
          (refine gI 6 12 (oi:=⟨some 55,_,_,_,_,_⟩) (oj:=⟨some 61,_,_,_,_,_⟩) rfl rfl aj rfl rfl (fun K hK=>?_) (fun K hK=>?_));
          (focus((go_simp;(with_reducible refine(TF s.Se (k.se.map Ju) _ (qg.out.kr.Se.below hS)).mono ?_);rintro en w6 ⟨⟨ao,rfl,hcl⟩,rfl⟩;(have OG:=Lib.hid hcl);(clear hcl);(try go_wp2_with fail));(refine hK.out _ _ (fun _=>bF) ?_;clear hK K);(try simp only[pt]);(refine aK 12 (oi:=⟨some 61,_,_,_,_,_⟩) rfl aj rfl (fun K hK=>?_));(refine kJ _ rfl hM aB (Ju ((m:Int),o1)) (by simp[Act.eval,Act.put,hwm]) (FB _) ?_);(refine hidS hK (hS.alloc hS.size _) (fun hS=>?_);clear hK K);(try simp only[pt]);((have HY:=Sl.qE (w:=w2.drew) (E:=136) (FB ((m:Int),o1)) rfl);(have hd8:Below w2.drew.heap.size w2.drew (w2.drew.alloc (.cells (Ju ((m:Int),o1)).cells 136)):=(Below.refl _ _).alloc (Nat.le_refl _) _);(generalize w2.drew.alloc (.cells (Ju ((m:Int),o1)).cells 136)=w8 at hS HY hd8⊢));(refine aK 13 (oi:=⟨some 62,_,_,_,_,_⟩) rfl aj rfl (fun K hK=>?_));((refine mg rfl hM ao (k.se.map Ju) bg J9 w2.heap.size (Ju ((m:Int),o1)) HY bg JU aR ?_;intro g9 n9 w9 vN nK));(refine hidS hK (hS.trans (nK.mono hS.size)) (fun hS=>?_);clear hK K);(try simp only[pt]);(refine tk 14 63 hS ?_);(try simp only[pt]);(refine tk 15 64 hS ?_);(try simp only[pt]);(refine tk 16 65 hS ?_);(try simp only[pt]);(refine aT 17 aj ?_ rfl);(simp only[List.toList_toArray,List.drop_succ_cons,List.drop_zero]);((have Bt:=Lib.hid vN.sl);(((try clear hcb bn hlb hnb hmb);(have aW:=qg.out.below hS);(obtain⟨hcb,bn,hlb,hnb,hmb⟩:=aC.rules aW.box);(have Br:=Lib.hid aW);(clear aW)));(have LV:w.grownBy w9 (some b):=aA (ay hbw2 _) (ay hS _));(clear vN nK);go_wp2_with fail;exact bodyPost_ret (v:= .tuple #[.int .u32 0,.int .i64 0]) Fb rfl ⟨rfl,⟨_,Br.out.aeV Py,fun _ _ _ h=>h⟩,aA LV (aM _ _ _ _)⟩)));
          (focus((refine kJ _ rfl hM aB (Ju ((m:Int),o1)) (by simp[Act.eval,Act.put,hwm]) (FB _) ?_);(refine hidS hK (hS.alloc hS.size _) (fun hS=>?_);clear hK K);(try simp only[pt]);((have HY:=Sl.qE (w:=w2.drew) (E:=136) (FB ((m:Int),o1)) rfl);(have hd8:Below w2.drew.heap.size w2.drew (w2.drew.alloc (.cells (Ju ((m:Int),o1)).cells 136)):=(Below.refl _ _).alloc (Nat.le_refl _) _);(generalize w2.drew.alloc (.cells (Ju ((m:Int),o1)).cells 136)=w8 at hS HY hd8⊢));(refine aK 6 (oi:=⟨some 55,_,_,_,_,_⟩) rfl aj rfl (fun K hK=>?_));(go_simp;(with_reducible refine(TF s.Se (k.se.map Ju) _ (qg.out.kr.Se.below hS)).mono ?_);rintro en w6 ⟨⟨ao,rfl,hcl⟩,rfl⟩;(have OG:=Lib.hid hcl);(clear hcl);(try go_wp2_with fail));(refine hK.out _ _ (fun _=>bF) ?_;clear hK K);(try simp only[pt]);(refine aK 13 (oi:=⟨some 62,_,_,_,_,_⟩) rfl aj rfl (fun K hK=>?_));((refine mg rfl hM ao (k.se.map Ju) bg J9 w2.heap.size (Ju ((m:Int),o1)) HY bg JU aR ?_;intro g9 n9 w9 vN nK));(refine hidS hK (hS.trans (nK.mono hS.size)) (fun hS=>?_);clear hK K);(try simp only[pt]);(refine tk 14 63 hS ?_);(try simp only[pt]);(refine tk 15 64 hS ?_);(try simp only[pt]);(refine tk 16 65 hS ?_);(try simp only[pt]);(refine aT 17 aj ?_ rfl);(simp only[List.toList_toArray,List.drop_succ_cons,List.drop_zero]);((have Bt:=Lib.hid vN.sl);(((try clear hcb bn hlb hnb hmb);(have aW:=qg.out.below hS);(obtain⟨hcb,bn,hlb,hnb,hmb⟩:=aC.rules aW.box);(have Br:=Lib.hid aW);(clear aW)));(have LV:w.grownBy w9 (some b):=aA (ay hbw2 _) (ay hS _));(clear vN nK);go_wp2_with fail;exact bodyPost_ret (v:= .tuple #[.int .u32 0,.int .i64 0]) Fb rfl ⟨rfl,⟨_,Br.out.aeV Py,fun _ _ _ h=>h⟩,aA LV (aM _ _ _ _)⟩))))
end Go.Proofs.YtgmodehldmahiaaGreatDoor
end
section
namespace Go.Proofs.YtgmodehldmahiaaGreatDoor
open Go Go.RowKit Go.Tm
theorem U_{P:Program}{E:TypeId}{ag:Bool}{k:Nat}{w:World}{v:Value}{xs:List Value}{t:TypeId}(T:Ty P E k ag)(ht:P.underlying t=some (.slice E))(h:Sl w ag k v xs)(hne:1≤xs.length):
  ∃v',(∀W,(Instr.slice t v (some (.int .i64 1)) (some (.int .i64 xs.length)) (some (.int .i64 xs.length))).run P W=.ok v' W)∧Sl w ag k v' (xs.drop 1):=by
 obtain⟨i,hi,hs⟩:=qK T
 obtain⟨hv,a,cap,rfl,h1,h2,h3⟩:=h
 have hle:(1:Int)≤xs.length:=ah
 refine⟨.slice (if xs.length=1 then a else a.map (·.add (1*k))) (xs.length-1) (xs.length-1),fun W=>?_,fun x hx=>hv x (List.mem_of_mem_drop hx),(if xs.length=1 then a else a.map (·.add (1*k))),xs.length-1,by rw[List.length_drop],by rw[List.length_drop];exact Nat.le_refl _,ah,?_⟩
 ·simp[Instr.slice,run_underlying ht,Instr.sliceBounds,Instr.sliceBound,asIntOf,sizeOf,typeInfo,hi,hs,hne,h1,hle]
 ·rcases h3 with rfl|⟨b,off,rfl,hb,hc⟩
  ·simp at hne
  ·by_cases hcm:xs.length=1
   ·left
    exact List.drop_of_length_le ah
   ·right
    refine⟨b,off+1*k,PO,hb,fun j x hx=>?_⟩
    rw[List.getElem?_drop] at hx
    have:=hc (1+j) x hx
    rwa[Nat.add_mul,←Nat.add_assoc] at this
def ms0:Ms:=(0,⟨#[]⟩)
theorem Aq(l:List Ms):(l.map Bo).length=l.length:=by simp
theorem aat(c:bf.Ch)(u:Value)(ms:List Ms)(lost:Int)(w:World)(hu:Sl w true 2 u (ms.map Bo)):
  Calls Tryz.prog 213 #[bf.uI c,.agg #[u,.int .i64 lost]] w fun en w'=>en=.returned (.tuple #[Bo (ms.headD ms0),.bool (!ms.isEmpty)])∧Below w.heap.size w w':=by
 obtain⟨a,cap,rfl,hl⟩:=hu.shape
 rw[Aq] at hl hu⊢
 cases ms with
 |nil=>
  clear hu
  go_enter Tryz.func213,Tryz.ntmps213
  go_wp2_with fail
  exact bodyPost_ret (v:= .tuple #[Bo ms0,.bool false]) (by simp[results,Tryz.results213,go_sem,ms0]) rfl ⟨rfl,aD⟩
 |cons m r=>
  obtain⟨b,off,rfl,hb,hcell⟩:=hu.at (i:=0) (x:=Bo m) rfl
  have c0:w.cell? ⟨b,off,none⟩=some (.int .u64 m.1):=by simpa using hcell 0 (.int .u64 m.1) rfl
  have c1:w.cell? ⟨b,off+1,none⟩=some (.string m.2):=by simpa using hcell 1 (.string m.2) rfl
  generalize hN:(m::r).length=N at*
  have hN1:1≤N:=by rw[←hN];simp
  have hN2:((N:Int)==0)=false:=mF
  have hN3:(0:Int)<N:=ah
  have hn1:¬b=w.heap.size:=ah
  have hn2:¬b=w.heap.size+1:=ah
  have sU:¬b=w.heap.size+1+1:=ah
  have HC:=Lib.hid (fun W (h:Below w.heap.size w W)=>Cells.below hcell h hb)
  clear hu hcell hN c0 c1
  go_enter Tryz.func213,Tryz.ntmps213
  go_wp2_with(first|((with_reducible refine bS 138 ?_);(refine aO rfl 138 _ rfl b ((off+0*2)) ?_ (Bo m) Sv (FC m) (HC.out _ aD) ?_;(exact aG)))|fail)
  exact bodyPost_ret (v:= .tuple #[Bo m,.bool true]) (by simp[results,Tryz.results213,go_sem]) rfl ⟨rfl,aD⟩
def j6(c:bf.Ch)(ms:List Ms):List Ms×Ms×Int:=if ms=[] then([],ms0,7) else(if c.1=1 then ms else ms.drop 1,ms.headD ms0,0)
theorem ab0(c:bf.Ch)(u:Value)(ms:List Ms)(lost:Int)(w00:World)(hu:Sl w00 true 2 u (ms.map Bo)):
  ∃u',Sl w00 true 2 u' ((j6 c ms).1.map Bo)∧∀w,Below w00.heap.size w00 w→Calls Tryz.prog 206 #[bf.uI c,.agg #[u,.int .i64 lost]] w fun en w'=>en=.returned (.tuple #[.agg #[u',.int .i64 lost],Bo (j6 c ms).2.1,.int .i64 (j6 c ms).2.2])∧Below w.heap.size w w':=by
 have HP:=Lib.hid (fun W h=>aat c u ms lost W h)
 have Us:=Lib.hid hu
 obtain⟨r,hr⟩:∃r,r=j6 c ms:=⟨_,rfl⟩
 rw[←hr]
 unfold j6 at hr
 have hd:=fun h=>U_ (xs:=ms.map Bo) Sv Tryz.underlying91 hu h
 rw[Aq] at hd
 obtain⟨kd,fr,tt,sz,dp⟩:=c
 dsimp only at hr
 obtain⟨a,cap,rfl,hl⟩:=hu.shape
 rw[Aq] at hl Us HP hd⊢
 have hN:ms=[]∨1≤ms.length:=by cases ms<;>simp
 have hE:ms.isEmpty=decide (ms=[]):=by cases ms<;>simp
 rw[hE] at HP
 generalize hm:ms.headD ms0=m0 at*
 generalize hNN:ms.length=N at*
 rcases hN with h0|h1
 ·rw[if_pos h0] at hr
  rw[decide_eq_true h0] at HP
  have hm0:m0=ms0:=by rw[←hm,h0];rfl
  subst hr hm0
  clear hu hE hd hm
  refine⟨.slice a N cap,by have:=Us.out;rw[h0] at this;exact this,fun w hbw=>?_⟩
  have HU:=Lib.hid (Us.out.below hbw)
  go_enter Tryz.func206,Tryz.ntmps206
  go_wp2_with fail
  with_reducible refine(HP.out _ (HU.out.below aD)).mono ?_
  rintro en w1 ⟨rfl,hb1⟩
  (have b1:aC w1 w.heap.size #[.int .i64 kd,.int .i64 fr,.int .i64 tt,.int .i64 sz,.int .i64 dp] 95:=pW);(obtain⟨hc1,hf1,hl1,hn1,hm1⟩:=b1.rules);(have K1:=Lib.hid b1);(clear b1)
  (have b2:aC w1 (w.heap.size+1) #[.slice a N cap,.int .i64 lost] 93:=vE);(obtain⟨hc2,hf2,hl2,hn2,hm2⟩:=b2.rules);(have K2:=Lib.hid b2);(clear b2)
  (have b3:aC w1 (w.heap.size+1+1) #[.slice none 0 0,.int .i64 0] 93:=z_);(obtain⟨hc3,hf3,hl3,sU,ng⟩:=b3.rules);(have K3:=Lib.hid b3);(clear b3)
  (have b4:aC w1 (w.heap.size+1+1+1) #[.int .u64 0,.string ⟨#[]⟩] 138:=EF);(obtain⟨hc4,xY,hl4,DL,Ir⟩:=b4.rules);(have K4:=Lib.hid b4);(clear b4)
  go_wp2_with fail
  go_region
  go_wp2_with fail
  ((generalize bN:World.drew _=wE);(have hbE:Below w.heap.size w wE:=bM);(have bE0:aC wE (w.heap.size+1+1) #[.slice a N cap,.int .i64 lost] 93:=Fj);(have afS:=bE0.rules.1);(have bE1:aC wE (w.heap.size+1+1+1) #[.int .u64 ms0.1,.string ms0.2] 138:=Qb);(have afR:=bE1.rules.1);(clear bN))
  exact bodyPost_ret (v:= .tuple #[.agg #[.slice a N cap,.int .i64 lost],Bo ms0,.int .i64 7]) XO rfl ⟨rfl,hbE⟩
 ·rw[if_neg YM] at hr
  rw[decide_eq_false YM] at HP
  obtain⟨v1,hs1,hs2⟩:=hd h1
  have HS2:=Lib.hid hs2
  by_cases hk:kd=1
  ·subst hk
   rw[if_pos rfl] at hr
   subst hr
   clear hu hE hd hm hs2
   refine⟨.slice a N cap,Us.out,fun w hbw=>?_⟩
   have HU:=Lib.hid (Us.out.below hbw)
   go_enter Tryz.func206,Tryz.ntmps206
   go_wp2_with fail
   with_reducible refine(HP.out _ (HU.out.below aD)).mono ?_
   rintro en w1 ⟨rfl,hb1⟩
   (have b1:aC w1 w.heap.size #[.int .i64 1,.int .i64 fr,.int .i64 tt,.int .i64 sz,.int .i64 dp] 95:=pW);(obtain⟨hc1,hf1,hl1,hn1,hm1⟩:=b1.rules);(have K1:=Lib.hid b1);(clear b1)
   (have b2:aC w1 (w.heap.size+1) #[.slice a N cap,.int .i64 lost] 93:=vE);(obtain⟨hc2,hf2,hl2,hn2,hm2⟩:=b2.rules);(have K2:=Lib.hid b2);(clear b2)
   (have b3:aC w1 (w.heap.size+1+1) #[.slice none 0 0,.int .i64 0] 93:=z_);(obtain⟨hc3,hf3,hl3,sU,ng⟩:=b3.rules);(have K3:=Lib.hid b3);(clear b3)
   (have b4:aC w1 (w.heap.size+1+1+1) #[.int .u64 0,.string ⟨#[]⟩] 138:=EF);(obtain⟨hc4,xY,hl4,DL,Ir⟩:=b4.rules);(have K4:=Lib.hid b4);(clear b4)
   go_wp2_with fail
   go_region
   go_wp2_with fail
   ((generalize bN:World.drew _=wE);(have hbE:Below w.heap.size w wE:=bM);(have bE0:aC wE (w.heap.size+1+1) #[.slice a N cap,.int .i64 lost] 93:=Fj);(have afS:=bE0.rules.1);(have bE1:aC wE (w.heap.size+1+1+1) #[.int .u64 m0.1,.string m0.2] 138:=Qb);(have afR:=bE1.rules.1);(clear bN))
   exact bodyPost_ret (v:= .tuple #[.agg #[.slice a N cap,.int .i64 lost],Bo m0,.int .i64 0]) XO rfl ⟨rfl,hbE⟩
  ·have ek:(kd !=1)=true:=by simp[hk]
   rw[if_neg hk] at hr
   subst hr
   clear hu hE hd hm hs2
   obtain⟨a1,m1,n1,rfl⟩:=HS2.out.is
   refine⟨.slice a1 m1 n1,by rw[List.map_drop];exact HS2.out,fun w hbw=>?_⟩
   have HU:=Lib.hid (Us.out.below hbw)
   go_enter Tryz.func206,Tryz.ntmps206
   go_wp2_with fail
   with_reducible refine(HP.out _ (HU.out.below aD)).mono ?_
   rintro en w1 ⟨rfl,hb1⟩
   (have b1:aC w1 w.heap.size #[.int .i64 kd,.int .i64 fr,.int .i64 tt,.int .i64 sz,.int .i64 dp] 95:=pW);(obtain⟨hc1,hf1,hl1,hn1,hm1⟩:=b1.rules);(have K1:=Lib.hid b1);(clear b1)
   (have b2:aC w1 (w.heap.size+1) #[.slice a N cap,.int .i64 lost] 93:=vE);(obtain⟨hc2,hf2,hl2,hn2,hm2⟩:=b2.rules);(have K2:=Lib.hid b2);(clear b2)
   (have b3:aC w1 (w.heap.size+1+1) #[.slice none 0 0,.int .i64 0] 93:=z_);(obtain⟨hc3,hf3,hl3,sU,ng⟩:=b3.rules);(have K3:=Lib.hid b3);(clear b3)
   (have b4:aC w1 (w.heap.size+1+1+1) #[.int .u64 0,.string ⟨#[]⟩] 138:=EF);(obtain⟨hc4,xY,hl4,DL,Ir⟩:=b4.rules);(have K4:=Lib.hid b4);(clear b4)
   go_wp2_with fail
   generalize hW2:World.alloc _ _=w2
   have b22:aC w2 (w.heap.size+1) #[.slice a1 m1 n1,.int .i64 lost] 93:=by rw[←hW2];exact(K2.out.set 0 _).alloc _
   have b23:aC w2 (w.heap.size+1+1) #[.slice none 0 0,.int .i64 0] 93:=by rw[←hW2];exact(K3.out.other _ _ (by first|(solve|simp)|(simp;omega))).alloc _
   have b24:aC w2 (w.heap.size+1+1+1) #[.int .u64 0,.string ⟨#[]⟩] 138:=by rw[←hW2];exact(K4.out.other _ _ (by first|(solve|simp)|(simp;omega))).alloc _
   have b25:aC w2 w1.heap.size #[.int .u64 m0.1,.string m0.2] 138:=by rw[←hW2];exact aC.new1 _ _ _ aI
   have hbw2:Below w.heap.size w w2:=by rw[←hW2];exact bl
   have q1:¬w1.heap.size=w.heap.size+1+1:=ah
   have q2:¬w1.heap.size=w.heap.size+1+1+1:=ah
   have q3:¬w1.heap.size=w.heap.size+1:=ah
   clear hc1 hf1 hl1 hn1 hm1 hc2 hf2 hl2 hn2 hm2 hc3 hf3 hl3 sU ng hc4 xY hl4 DL Ir hW2 hb1 K1 K2 K3 K4
   (obtain⟨hc2,hf2,hl2,hn2,hm2⟩:=aC.rules b22)
   (obtain⟨hc3,hf3,hl3,sU,ng⟩:=aC.rules b23)
   (obtain⟨hc4,xY,hl4,DL,Ir⟩:=aC.rules b24)
   (obtain⟨hc5,hf5,hl5,hn5,hm5⟩:=aC.rules b25)
   have K3:=Lib.hid b23
   have K4:=Lib.hid b24
   clear b22 b23 b24 b25
   go_region
   go_wp2_with fail
   ((generalize bN:World.drew _=wE);(have hbE:Below w.heap.size w wE:=bM);(have bE0:aC wE (w.heap.size+1+1) #[.slice a1 m1 n1,.int .i64 lost] 93:=Fj);(have afS:=bE0.rules.1);(have bE1:aC wE (w.heap.size+1+1+1) #[.int .u64 m0.1,.string m0.2] 138:=Qb);(have afR:=bE1.rules.1);(clear bN))
   exact bodyPost_ret (v:= .tuple #[.agg #[.slice a1 m1 n1,.int .i64 lost],Bo m0,.int .i64 0]) XO rfl ⟨rfl,hbE⟩
end Go.Proofs.YtgmodehldmahiaaGreatDoor
end
