/- Part 34 of 50 of the proof of topWindows_holds. Conditions: see each. -/
import Derived.Test.YtgmodehldmahiaaGreatDoorW14
import Derived.Test.YtgmodehldmahiaaGreatDoorW28
import Derived.Test.YtgmodehldmahiaaGreatDoorW33
set_option linter.unusedVariables false
set_option linter.unusedSimpArgs false
set_option maxRecDepth 8192
set_option maxHeartbeats 40000000
section
namespace Go.Proofs.YtgmodehldmahiaaGreatDoor
open Go Go.RowKit Go.Tm
attribute [local go_sem] fB fA fu dR dA dQ dP dO dN dM dL dK dJ dI dH dG dF iq ig h_ g_ gZ gY gX gN gW gV fF fE fD fC eY eX eU
attribute [local go_sem] Tab.uK Tab.LM Tab.Ht
noncomputable def XB(k:Kn)(pid:Int):Kn:={k with L:=(Turn.oL k.L k.left pid).1,left:=(Turn.oL k.L k.left pid).2}
noncomputable def yE(k:Kn)(pid:Int):Kn:=
 if(Tab.bD k.P pid).2=true∧(Tab.bD k.P pid).1.st=3 then XB (bU k (Tab.bD k.P pid).1 (pq (Tab.bD k.P pid).1).x 0 0) pid else k
noncomputable def yD(k:Kn)(p:Tab.bV):Kn:=
 if p.st=2 then
  (if(CQ (eT k (Tab.bD k.P p.pid).1 (pq p).x) p.pid (pq p).x).2 then XB (CQ (eT k (Tab.bD k.P p.pid).1 (pq p).x) p.pid (pq p).x).1 p.pid else(CQ (eT k (Tab.bD k.P p.pid).1 (pq p).x) p.pid (pq p).x).1)
 else k
noncomputable def oU(k:Kn):Kn:={k with S:=Sleep.Pj k.S k.now}
noncomputable def jF(k:Kn)(l:List Int):Kn:=l.foldl yE k
noncomputable def qx(k:Kn)(l:List Tab.bV):Kn:=l.foldl yD k
noncomputable def jE(k:Kn):Kn:=
 qx (jF (oU k) (Sleep.qI k.S k.now)) (jF (oU k) (Sleep.qI k.S k.now)).P
theorem Jk{α β:Type}(f:α→β→α)(a:α){l:List β}{i:Nat}{x:β}(hx:l[i]?=some x):(l.take (i+1)).foldl f a=f ((l.take i).foldl f a) x:=by
 rw[List.take_add_one,hx];simp
theorem WE{B:Nat}{l:List Sleep.Al}{now:Int}{v v2:Value}(Ip:∀b,v2.ownBlock=some b→v.ownBlock=some b)(h:Apart B v (Sleep.qh l)):Apart B v2 (Sleep.qh (Sleep.Pj l now)):=by
 rcases h with h|h
 ·left
  have:l=[]:=by cases l with|nil=>rfl|cons x r=>simp[Sleep.qh] at h
  subst this;rfl
 ·exact .inr fun b hb=>h b (Ip b hb)
def NC(k:Kn)(l:List Int):Prop:=∀i,Fit (jF k (l.take i))
structure Nz(k:Kn)(p:Tab.bV):Prop where
 fit:Fit k
 does:p.st=2→Fit (eT k (Tab.bD k.P p.pid).1 (pq p).x).1
 val:p.st=2→cK (Call.qj (eT k (Tab.bD k.P p.pid).1 (pq p).x).2.2 (eT k (Tab.bD k.P p.pid).1 (pq p).x).2.1)
 L:p.st=2→(CQ (eT k (Tab.bD k.P p.pid).1 (pq p).x) p.pid (pq p).x).1.L.length≤1000000000
def NA(k:Kn)(l:List Tab.bV):Prop:=∀(i:Nat) p,l[i]?=some p→Nz (qx k (l.take i)) p
theorem KW.add{w:World}{b:Nat}{s:Ks}{k:Kn}{v:Value}{pid:Int}(h:KW w b s k)(hv:Sl w false 1 v (ints (Turn.oL k.L k.left pid).1))(ha:Apart b v (ints (Turn.oL k.L k.left pid).1)):
  KW ((w.setCell ⟨b,1,none⟩ v).setCell ⟨b,2,none⟩ (.int .i64 (Turn.oL k.L k.left pid).2)) b {s with L:=v} (XB k pid):=(h.Ah hv ha).set_left _
theorem Gt{W:World}{B:Nat}{p:Tab.bV}{t:TypeId}(h:aC W B (Tab.dS p) t):Cells W B 22 (sP (pq p).x).cells.toList:=fun j v hv=>by
 rw[h.rules.1,sW p]
 have hj:j<4:=(List.getElem?_eq_some_iff.1 hv).1
 rw[dz]
 obtain rfl|rfl|rfl|rfl:j=0∨j=1∨j=2∨j=3:=by omega
 all_goals exact hv
theorem UG(b:Nat)(s:Ks)(k:Kn)(w:World)(hw:KW w b s k)(hk:Fit k)(h1:NC (oU k) (Sleep.qI k.S k.now))(h2:NA (jF (oU k) (Sleep.qI k.S k.now)) (jF (oU k) (Sleep.qI k.S k.now)).P):
  Calls Tryz.prog 90 #[.pointer (some ⟨b,0,none⟩)] w fun en w'=>en=.returned (.tuple #[])∧KS w b s k w' (jE k)∧w.grownBy w' (some b):=by
 have HW:=Lib.hid hw
 have hlt:=hw.lt
 have hS:=hk.S
 obtain⟨y,hy⟩:∃y,y=jE k:=⟨_,rfl⟩
 rw[←hy]
 unfold jE at hy
 have HY:=Lib.hid hy
 have HDU:=Lib.hid (fun W h=>Sleep.acE s.S k.S k.now W h ah)
 have hdl:(Sleep.qI k.S k.now).length≤1000000000:=by rw[Sleep.Nk];have:=Sleep.TD k.S k.now;omega
 generalize Sleep.qI k.S k.now=due at*
 have H1:=Lib.hid h1
 have H2:=Lib.hid h2
 have HAD:=Lib.hid (fun(k:Kn) (s:Ks) (pid:Int) W h hl=>Turn.KH s.L k.L k.left pid W h hl)
 have tY:=Below.refl w.heap.size w
 ((try clear hcb bn hlb hnb hmb);(have aW:=HW.out.below tY);(obtain⟨hcb,bn,hlb,hnb,hmb⟩:=aC.rules aW.box);(have jV:=Lib.hid aW);(clear aW))
 clear hw hy h1 h2
 go_enter Tryz.func90,Tryz.ntmps90
 go_wp2_with fail
 ((refine aY (fun W=>Below w.heap.size w W) (fun i=>decide (i<16)) aj ?_);
          (have hS0:Below w.heap.size w w.drew:=(Below.refl _ _).drew);
          (refine tk 0 11 hS0 ?_);
          (refine tk 1 12 hS0 ?_);
          (refine tk 2 13 hS0 ?_);
          (refine tk 3 14 hS0 ?_);
          (refine tk 4 15 hS0 ?_ (hy:=Or.inl ⟨aF,wu⟩));
          (refine tk 5 16 hS0 ?_);
          (refine tk 6 17 hS0 ?_);
          (refine tk 7 18 hS0 ?_);
          (refine tk 8 19 hS0 ?_);
          (refine tk 9 20 hS0 ?_ (hy:=Or.inl ⟨aF,wu⟩));
          (refine aK 10 (oi:=⟨some 21,_,_,_,_,_⟩) rfl aj rfl (fun K hK=>?_));
          (go_simp;(with_reducible refine(HDU.out _ (jV.out.kr.S.below hS0)).mono ?_);rintro en w1 ⟨v1,v2,rfl,ho1,hs2,ahE,hb1⟩;(have hS0:=hS0.trans (Below.mono hb1 hS0.size));(obtain⟨a1,n1,rfl,hl1⟩:=ho1.sl.shape);(rw[gT] at ho1 hl1⊢);(obtain⟨a2,m2,n2,rfl⟩:=hs2.is);(try go_wp2_with fail));
          (refine hK.out _ _ (fun _=>bF) ?_;clear hK K);
          (try simp only[pt]);
          (refine tk 11 10 hS0 ?_);
          (refine tk 12 22 hS0 ?_);
          (refine tk 13 23 hS0 ?_);
          (refine tk 14 2 hS0 ?_);
          (refine tk 15 3 hS0 ?_);
          (refine lQ aj ?_))
 ((try clear hcb bn hlb hnb hmb);(have aW:=jV.out.below hS0);(obtain⟨hcb,bn,hlb,hnb,hmb⟩:=aC.rules aW.box);(have nL:=Lib.hid aW);(clear aW))
 have hHS:=Lib.hid hs2
 have LH:=Lib.hid (ho1.le (base':=w.heap.size) (by first|exact Nat.le_refl _|simp))
 have HAP:=Lib.hid (fun(B:Nat) (h:Apart B s.S (Sleep.qh k.S))=>WE (now:=k.now) ahE h)
 clear hs2 ho1 ahE
 go_wp2_with fail
 generalize bN:World.setCell _ _ _=w2
 have kw2:KW w2 b {s with S:= .slice a2 m2 n2} (oU k):=by rw[←bN];exact nL.out.tT hHS.out
 have hg2:w1.grownBy w2 (some b):=nA
 have BD:=Lib.hid (show j3 w b s k {s with S:= .slice a2 m2 n2} (oU k) from fun B hB hne h=>⟨h.1,h.2.1,h.2.2.1,h.2.2.2.1,⟨h.2.2.2.2.1.1,h.2.2.2.2.1.2.1,HAP.out B h.2.2.2.2.1.2.2⟩,h.2.2.2.2.2⟩)
 have HG2:=Lib.hid (aA (ay hS0 (some b)) hg2)
 have lV:=Lib.hid (LH.out.Ai hg2 hlt)
 have qg:=Lib.hid kw2
 have hz2:=HG2.out.size
 clear bN kw2 hg2 hHS LH HAP nL jV hcb bn hlb hnb hmb
 obtain⟨s0,hs0⟩:∃s0:Ks,s0={s with S:= .slice a2 m2 n2}:=⟨_,rfl⟩
 rw[←hs0] at qg BD
 generalize oU k=k0 at*
 clear hs0
 go_loopw [31] (fun t W=>∃(i:Nat) (s':Ks),i≤due.length∧t=.int .i64 i∧KW W b s' (jF k0 (due.take i))∧j3 w b s k s' (jF k0 (due.take i))∧w2.grownBy W (some b)∧bB W w.heap.size 3 false 1 (.slice a1 due.length n1) (ints due)) (fun t _=>due.length-(intOf t).toNat)
 case atStart=>exact⟨0,s0,Nat.zero_le _,rfl,qg.out,BD.out,pI _ _,lV.out⟩
 case round=>
  obtain⟨i,s',hi,rfl,W_,hst,hgw,hown⟩:=hrel
  have HK:=Lib.hid W_
  have HS:=Lib.hid hst
  have HO:=Lib.hid hown
  have hwz:=hgw.size
  have HGW:=Lib.hid (aA HG2.out hgw)
  clear W_ hst
  by_cases hil:i<due.length
  ·obtain⟨x,hx⟩:∃x,due[i]?=some x:=⟨_,List.getElem?_eq_getElem hil⟩
   have uf:=Lib.hid (show jF k0 (due.take (i+1))=yE (jF k0 (due.take i)) x from Jk yE k0 hx)
   have hkk:=H1.out i
   generalize jF k0 (due.take i)=kk at*
   obtain⟨bb,off,rfl,hbb,hcx⟩:=Sl.int hown.sl hx
   unfold yE at uf
   have HFI:=Lib.hid (fun W (h:KW W b s' kk)=>Tab.lN s'.P kk.P x W h.kr.P)
   generalize Tab.bD kk.P x=fs at*
   obtain⟨f,fok⟩:=fs
   dsimp only at uf HFI
   have WO:=Tab.fq f
   have HA:=Lib.hid (fun s W h=>fQ b s kk f (pq f).x 0 0 W h hkk (lJ jq))
   have hL5:(bU kk f (pq f).x 0 0).L.length≤1000000000:=hkk.L
   generalize bU kk f (pq f).x 0 0=k5 at*
   clear hx hown
   (obtain⟨hcb,bn,hlb,hnb,hmb⟩:=aC.rules HK.out.box)
   go_wp2_with fail
   with_reducible refine(HFI.out _ HK.out).mono ?_
   rintro en w3 ⟨rfl,hb3⟩
   ((try clear hcb bn hlb hnb hmb);(have aW:=HK.out.below hb3);(obtain⟨hcb,bn,hlb,hnb,hmb⟩:=aC.rules aW.box);(have mM:=Lib.hid aW);(clear aW))
   have hz3:=hb3.size
   have KF:=Lib.hid (aC.new w3 (Tab.dS f) 126)
   have Ew:Below wr.heap.size wr (w3.alloc (.cells (Tab.dS f) 126)):=hb3.alloc hz3 _
   have r_:=Lib.hid (HO.out.kept Ew)
   have vU:=Lib.hid (HK.out.below Ew)
   cases fok
   ·go_wp2_with(first|((with_reducible refine bO 126 ?_);(refine aU rfl 126 _ _ rfl (Tab.dS f) Tab.aX (WO) aF ?_ ?_ ?_;(exact aG);(exact aG)))|fail)
    go_roundw
    case rel=>
     have hs:=uf.out
     rw[if_neg aI] at hs
     exact aef
    case measure=>simp[intOf];omega
   by_cases h3:f.st=3
   rotate_left
   ·have e3:(f.st==3)=false:=by simp[h3]
    go_wp2_with(first|((with_reducible refine bO 126 ?_);(refine aU rfl 126 _ _ rfl (Tab.dS f) Tab.aX (WO) aF ?_ ?_ ?_;(exact aG);(exact aG)))|fail)
    go_roundw
    case rel=>
     have hs:=uf.out
     rw[if_neg o_] at hs
     exact aef
    case measure=>simp[intOf];omega
   have e3:(f.st==3)=true:=o_
   have hcv:=F5 (pq f).x
   have hcc:=Gt KF.out
   go_wp2_with(first|((with_reducible refine bO 126 ?_);(refine aU rfl 126 _ _ rfl (Tab.dS f) Tab.aX (WO) aF ?_ ?_ ?_;(exact aG);(exact aG)))|((with_reducible refine bS 126 ?_);(refine aJ rfl 126 _ rfl (Tab.dS f) Tab.aX (WO) KF.out ?_ ?_;(exact aG)))|((with_reducible refine bS 124 ?_);(refine aO rfl 124 _ rfl w3.heap.size (22) ?_ (sP (pq f).x) Kq (hcv) hcc ?_;(exact aG)))|fail)
   with_reducible refine(HA.out _ _ vU.out).mono ?_
   rintro en w5 ⟨rfl,⟨s5,Oo,vX⟩,hg5⟩
   have abI:=Lib.hid (show j3 w b s k s5 k5 from fun B hB hne h=>vX B cZ hne (HS.out B hB hne h))
   have GY:=hg5.size
   simp only[World.size_alloc] at GY
   have pU:=Lib.hid Oo
   have LG:=Lib.hid (r_.out.Ai hg5 hlt)
   have hs:=uf.out
   rw[if_pos o_] at hs
   have Uh:=aA (aA hgw (ay Ew (some b))) hg5
   have abD:=Below.refl w5.heap.size w5
   clear Oo vX hcc
   ((try clear hcb bn hlb hnb hmb);(have aW:=pU.out.below abD);(obtain⟨hcb,bn,hlb,hnb,hmb⟩:=aC.rules aW.box);(have Ho:=Lib.hid aW);(clear aW))
   go_wp2_with fail
   with_reducible refine(HAD.out k5 s5 x w5 pU.out.kr.L ah).mono ?_
   rintro en w6 ⟨v6,rfl,hs6,hr6,hb6⟩
   obtain⟨a6,m6,n6,rfl⟩:=hs6.is
   ((try clear hcb bn hlb hnb hmb);(have aW:=pU.out.below hb6);(obtain⟨hcb,bn,hlb,hnb,hmb⟩:=aC.rules aW.box);(have zL:=Lib.hid aW);(clear aW))
   have H6:=Lib.hid hs6
   have HA6:=Lib.hid (hr6.apart pU.out.aL pU.out.lt)
   have HR6:=Lib.hid (fun(B:Nat) (hB:B<w5.heap.size) (h:Apart B s5.L (ints k5.L))=>hr6.apart (B:=B) h hB)
   have OX:=Lib.hid (LG.out.kept hb6)
   clear hs6 hr6
   go_wp2_with fail
   go_roundw
   case rel=>
    have vC:=aA (aA Uh (ay hb6 (some b))) (aA (aM w6 b 1 (.slice a6 m6 n6)) (aM _ b 2 (.int .i64 (Turn.oL k5.L k5.left x).2)))
    refine⟨i+1,{s5 with L:= .slice a6 m6 n6},ah,bI,by rw[hs];exact zL.out.add H6.out HA6.out,?_,vC,(OX.out.Ai (aM _ _ _ _) hlt).Ai (aM _ _ _ _) hlt⟩
    exact Y7
   case measure=>simp[intOf];omega
  ·obtain rfl:i=due.length:=by omega
   rw[List.take_length] at HK HS
   obtain⟨aP,cP,R7,hlP⟩:=HK.out.kr.P.shape
   rw[Tab.jh] at R7 hlP
   have HR:=Lib.hid hgw
   generalize jF k0 due=k1 at*
   (obtain⟨hcb,bn,hlb,hnb,hmb⟩:=aC.rules HK.out.box)
   clear hown HO lV
   go_wp2_with fail
   have HG8:=Lib.hid (HGW.out)
   have DK:=HK.out.kr.P
   rw[R7] at DK
   have LD:=Lib.hid DK
   clear DK hgw HR HGW H1 HDU
   go_loopw [74] (fun t W=>∃(i:Nat) (s2:Ks),i≤k1.P.length∧t=.int .i64 i∧KW W b s2 (qx k1 (k1.P.take i))∧j3 w b s k s2 (qx k1 (k1.P.take i))∧w.grownBy W (some b)∧Sl W true 26 (.slice aP k1.P.length cP) (Tab.pO k1.P)) (fun t _=>k1.P.length-(intOf t).toNat)
   case atStart=>exact⟨0,s',Nat.zero_le _,rfl,HK.out,HS.out,HG8.out,LD.out⟩
   case round=>
    obtain⟨i,s2,hi,rfl,W_,hst,hgw,hsl⟩:=hrel
    clear HK HS HG8 LD hcb bn hlb hnb hmb qg BD HG2
    have HK:=Lib.hid W_
    have HS:=Lib.hid hst
    have HSL:=Lib.hid hsl
    have HGW:=Lib.hid hgw
    have hwz:=hgw.size
    clear W_ hst
    by_cases hil:i<k1.P.length
    ·obtain⟨p,hx⟩:∃p,k1.P[i]?=some p:=⟨_,List.getElem?_eq_getElem hil⟩
     have uf:=Lib.hid (show qx k1 (k1.P.take (i+1))=yD (qx k1 (k1.P.take i)) p from Jk yD k1 hx)
     have hone:=H2.out i p hx
     generalize qx k1 (k1.P.take i)=kk at*
     obtain⟨bb,off,rfl,hbb,hcell⟩:=hsl.at (Tab.Ef hx)
     have nu:=Lib.hid hcell
     have hpv:=Tab.fq p
     unfold yD at uf
     clear hx hsl hcell
     (obtain⟨hcb,bn,hlb,hnb,hmb⟩:=aC.rules HK.out.box)
     have KF:=Lib.hid (aC.new wr (Tab.dS p) 126)
     have Ew:Below wr.heap.size wr (wr.alloc (.cells (Tab.dS p) 126)):=(Below.refl _ _).alloc (Nat.le_refl _) _
     have agl:=Lib.hid (HSL.out.below Ew)
     have vU:=Lib.hid (HK.out.below Ew)
     have hg4:=aA hgw (ay Ew (some b))
     by_cases h2:p.st=2
     rotate_left
     ·have e2:(p.st !=2)=true:=by simp[h2]
      go_wp2_with(first|((with_reducible refine bS 126 ?_);(refine aO rfl 126 _ rfl bb (off+i*26) ?_ (Tab.je p) Tab.aX (hpv) nu.out ?_;(exact aG)))|((with_reducible refine bO 126 ?_);(refine aU rfl 126 _ _ rfl (Tab.dS p) Tab.aX (hpv) aF ?_ ?_ ?_;(exact aG);(exact aG)))|fail)
      go_roundw
      case rel=>
       have hs:=uf.out
       rw[if_neg h2] at hs
       exact⟨i+1,s2,ah,bI,by rw[hs];exact vU.out,by rw[hs];exact HS.out,hg4,agl.out⟩
      case measure=>simp[intOf];omega
     have e2:(p.st !=2)=false:=rG
     have HT:=Lib.hid (fun s W h=>I6 b s kk p.pid (pq p).x W h hone.fit (iY p).x (hone.does h2) (hone.val h2))
     have hL5:=hone.L h2
     have hs:=uf.out
     rw[if_pos h2] at hs
     unfold zh at HT
     generalize CQ (eT kk (Tab.bD kk.P p.pid).1 (pq p).x) p.pid (pq p).x=r at*
     obtain⟨k5,on⟩:=r
     dsimp only at HT hL5 hs
     have hcv:=F5 (pq p).x
     have hcc:=Gt KF.out
     clear uf hone
     go_wp2_with(first|((with_reducible refine bS 126 ?_);(refine aO rfl 126 _ rfl bb (off+i*26) ?_ (Tab.je p) Tab.aX (hpv) nu.out ?_;(exact aG)))|((with_reducible refine bO 126 ?_);(refine aU rfl 126 _ _ rfl (Tab.dS p) Tab.aX (hpv) aF ?_ ?_ ?_;(exact aG);(exact aG)))|((with_reducible refine bS 124 ?_);(refine aO rfl 124 _ rfl wr.heap.size (22) ?_ (sP (pq p).x) Kq (hcv) hcc ?_;(exact aG)))|fail)
     with_reducible refine(HT.out _ _ vU.out).mono ?_
     rintro en w5 ⟨rfl,⟨s5,Oo,vX⟩,hg5⟩
     have GY:=hg5.size
     simp only[World.size_alloc] at GY
     have abI:=Lib.hid (show j3 w b s k s5 k5 from fun B hB hne h=>vX B cZ hne (HS.out B hB hne h))
     have pU:=Lib.hid Oo
     have XG:=Lib.hid (agl.out.bC hg5 (pG vU.out.box agl.out))
     have KF5:=Lib.hid (KF.out.grown hg5 aR)
     have Uh:=aA hg4 hg5
     have abD:=Below.refl w5.heap.size w5
     clear Oo vX hcc hcb bn hlb hnb hmb
     (obtain⟨hcb,bn,hlb,hnb,hmb⟩:=aC.rules pU.out.box)
     ((try clear hcf hff hlf hnf hmf);(have bx0:=KF5.out);(obtain⟨hcf,hff,hlf,hnf,hmf⟩:=aC.rules bx0);(have KF6:=Lib.hid bx0);(clear bx0))
     cases on
     ·simp only[Bool.false_eq_true,if_false] at hs
      go_wp2_with fail
      go_roundw
      case rel=>exact⟨i+1,s5,ah,bI,by rw[hs];exact pU.out,by rw[hs];exact abI.out,Uh,XG.out⟩
      case measure=>simp[intOf];omega
     ·simp only[if_true] at hs
      go_wp2_with fail
      ((refine aY (fun W=>Below w5.heap.size w5 W) (fun i=>decide (i<12)) aj ?_);
          (have hS5:Below w5.heap.size w5 w5.drew:=(Below.refl _ _).drew);
          (refine tk 0 87 hS5 ?_);
          (refine tk 1 88 hS5 ?_);
          (refine tk 2 89 hS5 ?_);
          (refine tk 3 90 hS5 ?_);
          (refine tk 4 91 hS5 ?_);
          (refine tk 5 92 hS5 ?_ (hy:=Or.inl ⟨aF,adS⟩));
          (refine tk 6 93 hS5 ?_);
          (refine tk 7 94 hS5 ?_ (hy:=Or.inl ⟨aF,adS⟩));
          (refine aK 8 (oi:=⟨some 95,_,_,_,_,_⟩) rfl aj rfl (fun K hK=>?_));
          (go_simp;(with_reducible refine(HAD.out k5 s5 p.pid _ (pU.out.kr.L.below hS5) ah).mono ?_);rintro en w6 ⟨v6,rfl,hs6,hr6,hb6⟩;(have hS5:=hS5.trans (Below.mono hb6 hS5.size));(obtain⟨a6,m6,n6,rfl⟩:=hs6.is);(have ha6:=hr6.apart pU.out.aL (by simp only[bE];exact pU.out.lt));(have zR:=fun(B:Nat) (hB:B<w5.heap.size) (h:Apart B s5.L (ints k5.L))=>hr6.apart (B:=B) h (by simp only[bE];exact hB));(try go_wp2_with fail));
          (refine hK.out _ _ (fun _=>bF) ?_;clear hK K);
          (try simp only[pt]);
          (refine tk 9 96 hS5 ?_);
          (refine tk 10 97 hS5 ?_);
          (refine tk 11 98 hS5 ?_);
          (refine aT 12 aj ?_ rfl);
          (simp only[List.toList_toArray,List.drop_succ_cons,List.drop_zero]))
      ((try clear hcb bn hlb hnb hmb);(have aW:=pU.out.below hS5);(obtain⟨hcb,bn,hlb,hnb,hmb⟩:=aC.rules aW.box);(have zL:=Lib.hid aW);(clear aW))
      have H6:=Lib.hid hs6
      have HA6:=Lib.hid ha6
      have HR6:=Lib.hid zR
      have OT:=Lib.hid (zL.out.add H6.out HA6.out)
      have aiz:=Lib.hid ((((XG.out.below hS5).bC (aM _ b 1 (.slice a6 m6 n6)) (pG zL.out.box (XG.out.below hS5)))))
      have XF:=Lib.hid (aiz.out.bC (aM _ b 2 (.int .i64 (Turn.oL k5.L k5.left p.pid).2)) (pG (zL.out.Ah H6.out HA6.out).box aiz.out))
      clear hs6 hr6 ha6 zR hcf hff hlf hnf hmf
      go_wp2_with fail
      go_roundw
      case rel=>
       have vC:=aA (aA Uh (ay hS5 (some b))) (aA (aM _ b 1 (.slice a6 m6 n6)) (aM _ b 2 (.int .i64 (Turn.oL k5.L k5.left p.pid).2)))
       refine⟨i+1,{s5 with L:= .slice a6 m6 n6},ah,bI,by rw[hs];exact OT.out,?_,vC,XF.out⟩
       exact Y7
      case measure=>simp[intOf];omega
    ·obtain rfl:i=k1.P.length:=by omega
     rw[List.take_length] at HK HS
     have hy:=HY.out
     go_wp2_with fail
     rw[hy]
     exact bodyPost_end (v:= .tuple #[]) (by simp[results,Tryz.results90,go_sem]) rfl ⟨rfl,⟨s2,HK.out,HS.out⟩,hgw⟩
end Go.Proofs.YtgmodehldmahiaaGreatDoor
end
section
namespace Go.Proofs.YtgmodehldmahiaaGreatDoor
open Go Go.RowKit Go.Tm
attribute [local go_sem] fB fA fu dR dA dQ dP dO dN dM dL dK dJ dI dH dG dF iq ig h_ g_ gZ gY gX gN gW gV fF fE fD fC eY eX eU
noncomputable def gF(k:Kn):Kn:={k with se:=[],want:=0}
noncomputable def vP(k:Kn):Kn:={k with now:=k.now+min 1 (18446744073709551615-k.now)}
noncomputable def jI(k:Kn):Kn:=vP (if k.gone=0 then n_ (jE (gF k)) else gF k)
theorem eG:Ty Tryz.prog 57 17 true:=⟨aj,aj,aB,aj⟩
theorem jB{w:World}{ag:Bool}{n:Nat}{v:Value}{xs:List Value}(h:Sl w ag n v xs):v.oneCell'=true:=by
 obtain⟨_,a,cap,rfl,_⟩:=h;rfl
theorem KR.val{W:World}{s:Ks}{k:Kn}(h:KR W s k):Val true 17 (.agg (kC s k)):=⟨_,rfl,jX s k,by
 rw[fM];intro x hx
 simp only[List.mem_cons,List.not_mem_nil,or_false] at hx
 rcases hx with rfl|rfl|rfl|rfl|rfl|rfl|rfl|rfl|rfl|rfl|rfl|rfl|rfl|rfl|rfl|rfl|rfl
 ·exact jB h.P
 ·exact jB h.L
 ·rfl
 ·exact jB h.S
 ·exact jB h.Pi
 ·rfl
 ·exact jB h.H
 ·rfl
 ·exact jB h.Im
 ·exact jB h.Ou
 ·exact jB h.In
 ·exact jB h.Bx.sl
 ·rfl
 ·exact jB h.Tr
 ·exact jB h.Se
 ·rfl
 ·rfl⟩
theorem acs(s:Ks)(k:Kn):Array.foldl (fun(cs:Array Value) (x:Value×Nat)=>cs.setIfInBounds x.snd x.fst) #[Value.slice none 0 0,Value.slice none 0 0,Value.int IntKind.i64 0,Value.slice none 0 0,Value.slice none 0 0,Value.int IntKind.i64 0,Value.slice none 0 0,Value.int IntKind.u64 0,Value.slice none 0 0,Value.slice none 0 0,Value.slice none 0 0,Value.slice none 0 0,Value.string {data:=#[]},Value.slice none 0 0,Value.slice none 0 0,Value.int IntKind.i64 0,Value.int IntKind.i64 0] (kC s k).zipIdx 0 17=kC s k:=by
 rw[fM];kernel_rfl
theorem ag0(s:Ks)(k:Kn):(kC s k)[16]'(by rw[jX];decide)=.int .i64 k.gone:=by
 have h:=eU s k
 rw[Array.getElem?_eq_getElem (by rw[jX];decide)] at h
 exact Option.some.inj h
theorem zf(z:Array Value)(hz:z.size=17)(s:Ks)(k:Kn):(z.toList.take 0++(Value.agg (kC s k)).cells.toList++z.toList.drop (0+17)).toArray=kC s k:=by
 rw[List.drop_eq_nil_of_le E8]
 simp[Value.cells]
def R6:Array Value:=#[.slice none 0 0,.slice none 0 0,.int .i64 0,.slice none 0 0,.slice none 0 0,.int .i64 0,.slice none 0 0,.int .u64 0,.slice none 0 0,.slice none 0 0,.slice none 0 0,.slice none 0 0,.string {data:=#[]},.slice none 0 0,.slice none 0 0,.int .i64 0,.int .i64 0]
theorem rW:R6.size=17:=rfl
theorem WG{W:World}{b n:Nat}{cs:Array Value}{t:TypeId}{v:Value}{xs:List Value}(hb:aC W b cs t)(hv:Sl W true n v xs)(hn:∀x∈xs,x.cells.toList.length=n)(hsz:cs.size<n):Apart b v xs:=by
 cases xs with
 |nil=>exact .inl rfl
 |cons x r=>
  right
  intro b' hb' hbb
  subst hbb
  obtain⟨a,cap,rfl,_⟩:=hv.shape
  obtain⟨b2,off,rfl,hlt,hc⟩:=hv.at (i:=0) (x:=x) rfl
  simp only[Value.ownBlock,Option.some.injEq] at hb'
  subst hb'
  have hs:=hn x aI
  have:=hc (n-1) _ (List.getElem?_eq_getElem ah)
  rw[hb.rules.1,Array.getElem?_eq_none ah] at this
  cases this
theorem KR.bL{W W':World}{R:Nat}{s:Ks}{k:Kn}{cs:Array Value}{t:TypeId}{ks:List Nat}(h:KR W s k)(ha:iL R s k)(hb:aC W R cs t)(hk:cs.toList.map kind=ks)(hsz:cs.size<26)
  (h1:uY ks [1,2,2,3]=true)(h2:uY ks [1,4]=true)(h3:uY ks [3,4]=true)(hg:W.grownBy W' (some R)):KR W' s k:=by
 refine⟨h.P.bC hg (WG hb h.P (fun x hx=>?_) hsz),h.L.bC hg ha.1,h.S.bC hg ha.2.2.2.2.1.2.2,h.Pi.bC hg ha.2.2.2.2.2,h.H.bC hg ha.2.1,h.Im.bC hg ha.2.2.1,h.Ou.bC hg ha.2.2.2.1,h.In.bC hg ha.2.2.2.2.1.1,⟨h.Bx.sl.bC hg ha.2.2.2.2.1.2.1,h.Bx.len,?_⟩,?_,?_,h.pi⟩
 ·obtain⟨y,_,rfl⟩:=List.mem_map.1 hx
  show(Tab.dS y).toList.length=26
  rw[Array.length_toList,Tab.jd]
 ·intro i u x hu hx
  exact(h.Bx.el i u x hu hx).bC hg (kF hk hb (h.Bx.el i u x hu hx) [3,4] (fun x hx=>mH) h3)
 ·exact h.Tr.bC hg (kF hk hb h.Tr [1,2,2,3] (fun x hx=>mH) h1)
 ·exact h.Se.bC hg (kF hk hb h.Se [1,4] (fun x hx=>mH) h2)
theorem bq{n b:Nat}{w w':World}(h:w.grownBy w' (some b))(hb:n≤b)(hn:n≤w.heap.size):Below n w w':=
 ⟨h.os,h.tape,h.output,h.size,fun j hj=>h.block j ah aR⟩
def Kj(w:World)(s:Ks)(k:Kn)(k':Kn)(e:Ending)(w':World):Prop:=
 ∃s',e=.returned (.agg (kC s' k'))∧KR w' s' k'∧(∀B,B<w.heap.size→iL B s k→iL B s' k')∧Below w.heap.size w w'
structure AB(k:Kn):Prop where
 fit:Fit k
 due:k.gone=0→NC (oU (gF k)) (Sleep.qI (gF k).S (gF k).now)
 waits:k.gone=0→NA (jF (oU (gF k)) (Sleep.qI (gF k).S (gF k).now)) (jF (oU (gF k)) (Sleep.qI (gF k).S (gF k).now)).P
 woke:k.gone=0→Fit (jE (gF k))
 goes:k.gone=0→(jE (gF k)).L≠[]→KJ (jE (gF k))
 now:k.gone=0→0≤(n_ (jE (gF k))).now∧(n_ (jE (gF k))).now≤18446744073709551615
theorem Fit.zero{k:Kn}(h:Fit k):Fit (gF k):={h with se:=by simp[gF]}
theorem Z4(s:Ks)(k:Kn)(w:World)(hr:KR w s k)(hT:iV w)(hf:AB k):
  Calls Tryz.prog 78 #[.agg (kC s k)] w (Kj w s k (jI k)):=by
 have HR:=Lib.hid hr
 have hkv:=hr.val
 have HF:=Lib.hid hf
 have hsz:=jX s k
 have Mv:=acs s k
 have h16:=ag0 s k
 have hT':=hT
 have akT:=hf.fit
 clear hr
 go_enter Tryz.func78,Tryz.ntmps78
 go_upto_if 20 with(first|((with_reducible refine bS 57 ?_);(refine aJ rfl 57 _ rfl (kC s k) eG (hkv) ((aC.new w (kC s k) 57).alloc _) ?_ ?_;(exact aG)))|fail)
 generalize bN:World.alloc _ _=w1
 have KB:aC w1 (w.heap.size+1+1) (kC {s with Se:= .slice none 0 0} (gF k)) kT:=by
  rw[←bN]
  refine(aC.new1 _ _ _ aI).cast ?_
  rw[Qq,Qp]
  rw[fM,fM];rfl
 have KRB:aC w1 (w.heap.size+1) R6 57:=by rw[←bN];exact(aC.new1 _ _ _ aI).alloc _
 have hb1:Below w.heap.size w w1:=bM
 have hz1:w.heap.size+1+1+1≤w1.heap.size:=bX
 have Il:KW w1 (w.heap.size+1+1) {s with Se:= .slice none 0 0} (gF k):=
  ⟨KB,{HR.out.below hb1 with Se:=Sl.nil w1 true 2},HR.out.L.apart ah,HR.out.Im.apart ah,HR.out.Bx.sl.apart ah⟩
 have nL:=Lib.hid Il
 have KRZ:=Lib.hid KRB
 have Pg:=Below.refl w1.heap.size w1
 clear bN Il KB KRB hsz Mv h16 hkv hT'
 ((try clear hcb bn hlb hnb hmb);(have aW:=nL.out.below Pg);(obtain⟨hcb,bn,hlb,hnb,hmb⟩:=aC.rules aW.box);(have jV:=Lib.hid aW);(clear aW))
 by_cases hg:k.gone=0
 ·have e0:(k.gone==0)=true:=by simp[hg]
  go_wp2_with fail
  with_reducible refine(UG _ _ _ _ nL.out hf.fit.zero (hf.due hg) (hf.waits hg)).mono ?_
  rintro en w2 ⟨rfl,⟨s2,kw2,DT⟩,hg2⟩
  have hz2:=hg2.size
  have hT2:iV w2:=(hT.below hb1).grown hg2 ah
  have qg:=Lib.hid kw2
  have alu:=Below.refl w2.heap.size w2
  clear kw2
  go_wp2_with fail
  with_reducible refine(aaR _ _ _ _ qg.out (hf.woke hg) hT2 (hf.goes hg)).mono ?_
  rintro en w3 ⟨rfl,⟨s3,CS,JB⟩,hg3⟩
  have hz3:=hg3.size
  have qH:∀B,B<w1.heap.size→B≠w.heap.size+1+1→iL B s k→iL B s3 (n_ (jE (gF k))):=fun B hB hne h=>JB B ah hne (DT B hB hne h)
  have fJ:Below w.heap.size w w3:=hb1.trans ((bq hg2 ah ah).trans (bq hg3 ah ah))
  have mM:=Lib.hid CS
  have KR3:=Lib.hid ((KRZ.out.grown hg2 aI).grown hg3 aI)
  have akk:=Below.refl w3.heap.size w3
  clear CS hcb bn hlb hnb hmb
  ((try clear hcb bn hlb hnb hmb);(have aW:=mM.out.below akk);(obtain⟨hcb,bn,hlb,hnb,hmb⟩:=aC.rules aW.box);(have vU:=Lib.hid aW);(clear aW))
  have LQ:0≤(n_ (jE (gF k))).now∧(n_ (jE (gF k))).now≤18446744073709551615:=hf.now hg
  go_wp2_with fail
  with_reducible refine(Sleep.Ca (n_ (jE (gF k))).now 1 _ LQ aB).mono ?_
  rintro en w8 ⟨rfl,jU⟩
  ((try clear hcb bn hlb hnb hmb);(have aW:=mM.out.below jU);(obtain⟨hcb,bn,hlb,hnb,hmb⟩:=aC.rules aW.box);(have OT:=Lib.hid aW);(clear aW))
  have KR8:=Lib.hid (KR3.out.below jU KR3.out.lt)
  have hrl:=KR8.out.lt
  have hk0:R6.size=17:=rfl
  have OJ:=jU.size
  go_wp2_with(first|((with_reducible refine bS 57 ?_);(generalize bN:World.setCell _ _ _=w9);(have yL:KW w9 (w.heap.size+1+1) (s3) (vP (n_ (jE (gF k)))):=(by rw[←bN];exact OT.out.SV _));(have TQ:=Lib.hid (show aC w9 (w.heap.size+1) (R6) 57 from by rw[←bN];exact KR8.out.other _ _ aI));(have Br:=Lib.hid yL);(have vR:=yL.kr.val);(have Lm:w8.heap.size≤w9.heap.size:=bX);(have lg:w8.grownBy w9 (some (w.heap.size+1+1)):=nA);(clear bN yL hcb bn hlb hnb hmb);(refine aJ rfl 57 _ rfl (kC (s3) (vP (n_ (jE (gF k))))) eG vR Br.out.box ?_ ?_;(exact aG)))|((with_reducible refine bO 57 ?_);(refine aN rfl 57 _ _ rfl TQ.out (.agg (kC (s3) (vP (n_ (jE (gF k)))))) eG (vR) ?_ (_) (zf _ rW _ _) ?_ ?_ ?_;(exact fK);(exact aG);(exact aG);(intro uH EA zW Xl pV;(have Ib:=Lib.hid EA))))|fail)
  have hy:jI k=vP (n_ (jE (gF k))):=by unfold jI;rw[if_pos hg]
  rw[hy]
  have hfr:KR uH (s3) (vP (n_ (jE (gF k)))):=Br.out.kr.bL (R:=w.heap.size+1) (ks:=lu) (qH _ ah ah (HR.out.away ah)) TQ.out rfl aB aB aB aB zW
  refine iP Tryz.results78 eG vR aF Ib.out rfl ⟨s3,rfl,hfr,(fun B hB h=>qH B ah ah h),?_⟩
  exact fJ.trans ((jU.mono ah).trans ((bq lg ah ah).trans (pV.mono ah)))
 ·have e0:(k.gone==0)=false:=by simp[hg]
  have bP:=hb1
  have LQ:0≤(gF k).now∧(gF k).now≤18446744073709551615:=hf.fit.now
  go_wp2_with fail
  with_reducible refine(Sleep.Ca (gF k).now 1 _ LQ aB).mono ?_
  rintro en w8 ⟨rfl,jU⟩
  ((try clear hcb bn hlb hnb hmb);(have aW:=nL.out.below jU);(obtain⟨hcb,bn,hlb,hnb,hmb⟩:=aC.rules aW.box);(have OT:=Lib.hid aW);(clear aW))
  have KR8:=Lib.hid (KRZ.out.below jU KRZ.out.lt)
  have hrl:=KR8.out.lt
  have hk0:R6.size=17:=rfl
  have OJ:=jU.size
  go_wp2_with(first|((with_reducible refine bS 57 ?_);(generalize bN:World.setCell _ _ _=w9);(have yL:KW w9 (w.heap.size+1+1) ({s with Se:= .slice none 0 0}) (vP (gF k)):=(by rw[←bN];exact OT.out.SV _));(have TQ:=Lib.hid (show aC w9 (w.heap.size+1) (R6) 57 from by rw[←bN];exact KR8.out.other _ _ aI));(have Br:=Lib.hid yL);(have vR:=yL.kr.val);(have Lm:w8.heap.size≤w9.heap.size:=bX);(have lg:w8.grownBy w9 (some (w.heap.size+1+1)):=nA);(clear bN yL hcb bn hlb hnb hmb);(refine aJ rfl 57 _ rfl (kC ({s with Se:= .slice none 0 0}) (vP (gF k))) eG vR Br.out.box ?_ ?_;(exact aG)))|((with_reducible refine bO 57 ?_);(refine aN rfl 57 _ _ rfl TQ.out (.agg (kC ({s with Se:= .slice none 0 0}) (vP (gF k)))) eG (vR) ?_ (_) (zf _ rW _ _) ?_ ?_ ?_;(exact fK);(exact aG);(exact aG);(intro uH EA zW Xl pV;(have Ib:=Lib.hid EA))))|fail)
  have hy:jI k=vP (gF k):=by unfold jI;rw[if_neg hg]
  rw[hy]
  have hfr:KR uH ({s with Se:= .slice none 0 0}) (vP (gF k)):=Br.out.kr.bL (R:=w.heap.size+1) (ks:=lu) (HR.out.away ah) TQ.out rfl aB aB aB aB zW
  refine iP Tryz.results78 eG vR aF Ib.out rfl ⟨{s with Se:= .slice none 0 0},rfl,hfr,(fun B hB h=>h),?_⟩
  exact hb1.trans ((jU.mono ah).trans ((bq lg ah ah).trans (pV.mono ah)))
end Go.Proofs.YtgmodehldmahiaaGreatDoor
end
