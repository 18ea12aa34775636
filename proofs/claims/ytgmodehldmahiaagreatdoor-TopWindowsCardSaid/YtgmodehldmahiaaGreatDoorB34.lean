/- Part 34 of 53 of the proof of topAlone_and_topApart. Conditions: see each. -/
import Derived.Test.YtgmodehldmahiaaGreatDoorB14
import Derived.Test.YtgmodehldmahiaaGreatDoorB28
import Derived.Test.YtgmodehldmahiaaGreatDoorB33
set_option linter.unusedVariables false
set_option linter.unusedSimpArgs false
set_option maxRecDepth 8192
set_option maxHeartbeats 40000000
section
namespace Go.Proofs.YtgmodehldmahiaaGreatDoor
open Go Go.RowKit Go.Tm
attribute [local go_sem] fO fM fK d_ dM dZ dY dX dW dV dU dS dR dQ dP dO dN iQ iP iO iN iM iL iK iG iJ iI fU fT fQ fP fI fH fC
attribute [local go_sem] aT.xZ aT.QT aT.Ma
noncomputable def abX(k:Kn)(pid:Int):Kn:={k with L:=(ji.rG k.L k.left pid).1,left:=(ji.rG k.L k.left pid).2}
noncomputable def F6(k:Kn)(pid:Int):Kn:=
 if(aT.bK k.P pid).2=true∧(aT.bK k.P pid).1.st=3 then abX (dA k (aT.bK k.P pid).1 (pq (aT.bK k.P pid).1).x 0 0) pid else k
noncomputable def F5(k:Kn)(p:aT.dz):Kn:=
 if p.st=2 then
  (if(Lx (gu k (aT.bK k.P p.pid).1 (pq p).x) p.pid (pq p).x).2 then abX (Lx (gu k (aT.bK k.P p.pid).1 (pq p).x) p.pid (pq p).x).1 p.pid else(Lx (gu k (aT.bK k.P p.pid).1 (pq p).x) p.pid (pq p).x).1)
 else k
noncomputable def rQ(k:Kn):Kn:={k with S:=Sleep.U1 k.S k.now}
noncomputable def lD(k:Kn)(l:List Int):Kn:=l.foldl F6 k
noncomputable def uY(k:Kn)(l:List aT.dz):Kn:=l.foldl F5 k
noncomputable def mX(k:Kn):Kn:=
 uY (lD (rQ k) (Sleep.um k.S k.now)) (lD (rQ k) (Sleep.um k.S k.now)).P
theorem NP{α β:Type}(f:α→β→α)(a:α){l:List β}{i:Nat}{x:β}(hx:l[i]?=some x):(l.take (i+1)).foldl f a=f ((l.take i).foldl f a) x:=by
 rw[List.take_add_one,hx];simp
theorem abr{B:Nat}{l:List Sleep.Al}{now:Int}{v v2:Value}(MO:∀b,v2.ownBlock=some b→v.ownBlock=some b)(h:Apart B v (Sleep.sM l)):Apart B v2 (Sleep.sM (Sleep.U1 l now)):=by
 rcases h with h|h
 ·left
  have:l=[]:=by cases l with|nil=>rfl|cons x r=>simp[Sleep.sM] at h
  subst this;rfl
 ·exact .inr fun b hb=>h b (MO b hb)
def Tj(k:Kn)(l:List Int):Prop:=∀i,Fit (lD k (l.take i))
structure Tg(k:Kn)(p:aT.dz):Prop where
 fit:Fit k
 does:p.st=2→Fit (gu k (aT.bK k.P p.pid).1 (pq p).x).1
 val:p.st=2→dI (Call.tF (gu k (aT.bK k.P p.pid).1 (pq p).x).2.2 (gu k (aT.bK k.P p.pid).1 (pq p).x).2.1)
 L:p.st=2→(Lx (gu k (aT.bK k.P p.pid).1 (pq p).x) p.pid (pq p).x).1.L.length≤1000000000
def Ti(k:Kn)(l:List aT.dz):Prop:=∀(i:Nat) p,l[i]?=some p→Tg (uY k (l.take i)) p
theorem KW.add{w:World}{b:Nat}{s:Ks}{k:Kn}{v:Value}{pid:Int}(h:KW w b s k)(hv:Sl w false 1 v (ints (ji.rG k.L k.left pid).1))(ha:Apart b v (ints (ji.rG k.L k.left pid).1)):
  KW ((w.setCell ⟨b,1,none⟩ v).setCell ⟨b,2,none⟩ (.int .i64 (ji.rG k.L k.left pid).2)) b {s with L:=v} (abX k pid):=(h.Dw hv ha).set_left _
theorem KN{W:World}{B:Nat}{p:aT.dz}{t:TypeId}(h:aD W B (aT.eT p) t):Cells W B 22 (vZ (pq p).x).cells.toList:=fun j v hv=>by
 rw[h.rules.1,wM p]
 have hj:j<4:=(List.getElem?_eq_some_iff.1 hv).1
 rw[eD]
 obtain rfl|rfl|rfl|rfl:j=0∨j=1∨j=2∨j=3:=by omega
 all_goals exact hv
theorem ZG(b:Nat)(s:Ks)(k:Kn)(w:World)(hw:KW w b s k)(hk:Fit k)(h1:Tj (rQ k) (Sleep.um k.S k.now))(h2:Ti (lD (rQ k) (Sleep.um k.S k.now)) (lD (rQ k) (Sleep.um k.S k.now)).P):
  Calls Tryz.prog 90 #[.pointer (some ⟨b,0,none⟩)] w fun en w'=>en=.returned (.tuple #[])∧KS w b s k w' (mX k)∧w.grownBy w' (some b):=by
 have HW:=ah hw
 have hlt:=hw.lt
 have hS:=hk.S
 obtain⟨y,hy⟩:∃y,y=mX k:=⟨_,rfl⟩
 rw[←hy]
 unfold mX at hy
 have HY:=ah hy
 have HDU:=ah (fun W h=>Sleep.ahc s.S k.S k.now W h aj)
 have hdl:(Sleep.um k.S k.now).length≤1000000000:=by rw[Sleep.SS];have:=Sleep.YA k.S k.now;omega
 generalize Sleep.um k.S k.now=due at*
 have H1:=ah h1
 have H2:=ah h2
 have HAD:=ah (fun(k:Kn) (s:Ks) (pid:Int) W h hl=>ji.P5 s.L k.L k.left pid W h hl)
 have yg:=Below.refl w.heap.size w
 ((try clear hcb bC bn bA bE);have bg:=HW.out.below yg;obtain⟨hcb,bC,bn,bA,bE⟩:=aD.rules bg.box;have lG:=ah bg;clear bg)
 clear hw hy h1 h2
 go_enter Tryz.func90,Tryz.ntmps90
 go_wp2_with fail
 ((refine aY (fun W=>Below w.heap.size w W) (fun i=>decide (i<16)) ay ?_);
          have FQ:Below w.heap.size w w.drew:=(Below.refl _ _).drew;
          (refine tk 0 11 FQ ?_);
          (refine tk 1 12 FQ ?_);
          (refine tk 2 13 FQ ?_);
          (refine tk 3 14 FQ ?_);
          (refine tk 4 15 FQ ?_ (hy:=Or.inl ⟨aF,sQ⟩));
          (refine tk 5 16 FQ ?_);
          (refine tk 6 17 FQ ?_);
          (refine tk 7 18 FQ ?_);
          (refine tk 8 19 FQ ?_);
          (refine tk 9 20 FQ ?_ (hy:=Or.inl ⟨aF,sQ⟩));
          (refine aJ 10 (oi:=⟨some 21,_,_,_,_,_⟩) rfl ay rfl (fun K hK=>?_));
          (go_simp;(with_reducible refine(HDU.out _ (lG.out.kr.S.below FQ)).mono ?_);rintro en w1 ⟨v1,v2,rfl,zG,hs2,amG,hb1⟩;have FQ:=FQ.trans (Below.mono hb1 FQ.size);obtain⟨a1,n1,rfl,jO⟩:=zG.sl.shape;rw[gH] at zG jO⊢;obtain⟨a2,m2,n2,rfl⟩:=hs2.is;(try go_wp2_with fail));
          (refine hK.out _ _ (fun _=>b_) ?_;clear hK K);
          (try simp only[pt]);
          (refine tk 11 10 FQ ?_);
          (refine tk 12 22 FQ ?_);
          (refine tk 13 23 FQ ?_);
          (refine tk 14 2 FQ ?_);
          (refine tk 15 3 FQ ?_);
          (refine mJ ay ?_))
 ((try clear hcb bC bn bA bE);have bg:=lG.out.below FQ;obtain⟨hcb,bC,bn,bA,bE⟩:=aD.rules bg.box;have qA:=ah bg;clear bg)
 have hHS:=ah hs2
 have Hu:=ah (zG.le (base':=w.heap.size) (by first|exact Nat.le_refl _|simp))
 have HAP:=ah (fun(B:Nat) (h:Apart B s.S (Sleep.sM k.S))=>abr (now:=k.now) amG h)
 clear hs2 zG amG
 go_wp2_with fail
 generalize bR:World.setCell _ _ _=w2
 have kw2:KW w2 b {s with S:= .slice a2 m2 n2} (rQ k):=by rw[←bR];exact qA.out.xk hHS.out
 have hg2:w1.grownBy w2 (some b):=qg
 have EH:=ah (show lN w b s k {s with S:= .slice a2 m2 n2} (rQ k) from fun B hB hne h=>⟨h.1,h.2.1,h.2.2.1,h.2.2.2.1,⟨h.2.2.2.2.1.1,h.2.2.2.2.1.2.1,HAP.out B h.2.2.2.2.1.2.2⟩,h.2.2.2.2.2⟩)
 have HG2:=ah (aB (aA FQ (some b)) hg2)
 have nR:=ah (Hu.out.Dx hg2 hlt)
 have tC:=ah kw2
 have hz2:=HG2.out.size
 clear bR kw2 hg2 hHS Hu HAP qA lG hcb bC bn bA bE
 obtain⟨s0,hs0⟩:∃s0:Ks,s0={s with S:= .slice a2 m2 n2}:=⟨_,rfl⟩
 rw[←hs0] at tC EH
 generalize rQ k=k0 at*
 clear hs0
 go_loopw [31] (fun t W=>∃(i:Nat) (s':Ks),i≤due.length∧t=.int .i64 i∧KW W b s' (lD k0 (due.take i))∧lN w b s k s' (lD k0 (due.take i))∧w2.grownBy W (some b)∧bI W w.heap.size 3 false 1 (.slice a1 due.length n1) (ints due)) (fun t _=>due.length-(intOf t).toNat)
 case atStart=>exact⟨0,s0,Nat.zero_le _,rfl,tC.out,EH.out,r9 _ _,nR.out⟩
 case round=>
  obtain⟨i,s',hi,rfl,hkw,hst,qI,hown⟩:=hrel
  have HK:=ah hkw
  have HS:=ah hst
  have HO:=ah hown
  have hwz:=qI.size
  have HGW:=ah (aB HG2.out qI)
  clear hkw hst
  by_cases xW:i<due.length
  ·obtain⟨x,hx⟩:∃x,due[i]?=some x:=⟨_,List.getElem?_eq_getElem xW⟩
   have xD:=ah (show lD k0 (due.take (i+1))=F6 (lD k0 (due.take i)) x from NP F6 k0 hx)
   have hkk:=H1.out i
   generalize lD k0 (due.take i)=kk at*
   obtain⟨bb,off,rfl,yT,gL⟩:=Sl.int hown.sl hx
   unfold F6 at xD
   have HFI:=ah (fun W (h:KW W b s' kk)=>aT.n_ s'.P kk.P x W h.kr.P)
   generalize aT.bK kk.P x=fs at*
   obtain⟨f,fok⟩:=fs
   dsimp only at xD HFI
   have hfv:=aT.fG f
   have HA:=ah (fun s W h=>gW b s kk f (pq f).x 0 0 W h hkk (nW kF))
   have hL5:(dA kk f (pq f).x 0 0).L.length≤1000000000:=hkk.L
   generalize dA kk f (pq f).x 0 0=k5 at*
   clear hx hown
   obtain⟨hcb,bC,bn,bA,bE⟩:=aD.rules HK.out.box
   go_wp2_with fail
   with_reducible refine(HFI.out _ HK.out).mono ?_
   rintro en w3 ⟨rfl,hb3⟩
   ((try clear hcb bC bn bA bE);have bg:=HK.out.below hb3;obtain⟨hcb,bC,bn,bA,bE⟩:=aD.rules bg.box;have pF:=ah bg;clear bg)
   have hz3:=hb3.size
   have KF:=ah (aD.new w3 (aT.eT f) 126)
   have Q8:Below wr.heap.size wr (w3.alloc (.cells (aT.eT f) 126)):=hb3.alloc hz3 _
   have uH:=ah (HO.out.kept Q8)
   have zK:=ah (HK.out.below Q8)
   cases fok
   ·go_wp2_with(first|((with_reducible refine bS 126 ?_);(refine aU rfl 126 _ _ rfl (aT.eT f) aT.bf (hfv) aF ?_ ?_ ?_;(exact aM);(exact aM)))|fail)
    go_roundw
    case rel=>
     have hs:=xD.out
     rw[if_neg aI] at hs
     exact aiz
    case measure=>simp[intOf];omega
   by_cases h3:f.st=3
   rotate_left
   ·have e3:(f.st==3)=false:=by simp[h3]
    go_wp2_with(first|((with_reducible refine bS 126 ?_);(refine aU rfl 126 _ _ rfl (aT.eT f) aT.bf (hfv) aF ?_ ?_ ?_;(exact aM);(exact aM)))|fail)
    go_roundw
    case rel=>
     have hs:=xD.out
     rw[if_neg rV] at hs
     exact aiz
    case measure=>simp[intOf];omega
   have e3:(f.st==3)=true:=rV
   have hcv:=J6 (pq f).x
   have hcc:=KN KF.out
   go_wp2_with(first|((with_reducible refine bS 126 ?_);(refine aU rfl 126 _ _ rfl (aT.eT f) aT.bf (hfv) aF ?_ ?_ ?_;(exact aM);(exact aM)))|((with_reducible refine cK 126 ?_);(refine aK rfl 126 _ rfl (aT.eT f) aT.bf (hfv) KF.out ?_ ?_;(exact aM)))|((with_reducible refine cK 124 ?_);(refine aN rfl 124 _ rfl w3.heap.size (22) ?_ (vZ (pq f).x) PK (hcv) hcc ?_;(exact aM)))|fail)
   with_reducible refine(HA.out _ _ zK.out).mono ?_
   rintro en w5 ⟨rfl,⟨s5,Uc,C_⟩,nK⟩
   have agn:=ah (show lN w b s k s5 k5 from fun B hB hne h=>C_ B dF hne (HS.out B hB hne h))
   have LP:=nK.size
   simp only[World.size_alloc] at LP
   have sN:=ah Uc
   have Ht:=ah (uH.out.Dx nK hlt)
   have hs:=xD.out
   rw[if_pos rV] at hs
   have Zk:=aB (aB qI (aA Q8 (some b))) nK
   have agi:=Below.refl w5.heap.size w5
   clear Uc C_ hcc
   ((try clear hcb bC bn bA bE);have bg:=sN.out.below agi;obtain⟨hcb,bC,bn,bA,bE⟩:=aD.rules bg.box;have LZ:=ah bg;clear bg)
   go_wp2_with fail
   with_reducible refine(HAD.out k5 s5 x w5 sN.out.kr.L aj).mono ?_
   rintro en w6 ⟨v6,rfl,Ew,hr6,kM⟩
   obtain⟨a6,m6,n6,rfl⟩:=Ew.is
   ((try clear hcb bC bn bA bE);have bg:=sN.out.below kM;obtain⟨hcb,bC,bn,bA,bE⟩:=aD.rules bg.box;have CU:=ah bg;clear bg)
   have H6:=ah Ew
   have HA6:=ah (hr6.apart sN.out.aL sN.out.lt)
   have HR6:=ah (fun(B:Nat) (hB:B<w5.heap.size) (h:Apart B s5.L (ints k5.L))=>hr6.apart (B:=B) h hB)
   have Ip:=ah (Ht.out.kept kM)
   clear Ew hr6
   go_wp2_with fail
   go_roundw
   case rel=>
    have yS:=aB (aB Zk (aA kM (some b))) (aB (aO w6 b 1 (.slice a6 m6 n6)) (aO _ b 2 (.int .i64 (ji.rG k5.L k5.left x).2)))
    refine⟨i+1,{s5 with L:= .slice a6 m6 n6},aj,dn,by rw[hs];exact CU.out.add H6.out HA6.out,?_,yS,(Ip.out.Dx (aO _ _ _ _) hlt).Dx (aO _ _ _ _) hlt⟩
    exact adL
   case measure=>simp[intOf];omega
  ·obtain rfl:i=due.length:=by omega
   rw[List.take_length] at HK HS
   obtain⟨aP,cP,Xw,hlP⟩:=HK.out.kr.P.shape
   rw[aT.jC] at Xw hlP
   have HR:=ah qI
   generalize lD k0 due=k1 at*
   obtain⟨hcb,bC,bn,bA,bE⟩:=aD.rules HK.out.box
   clear hown HO nR
   go_wp2_with fail
   have HG8:=ah (HGW.out)
   have GN:=HK.out.kr.P
   rw[Xw] at GN
   have QN:=ah GN
   clear GN qI HR HGW H1 HDU
   go_loopw [74] (fun t W=>∃(i:Nat) (s2:Ks),i≤k1.P.length∧t=.int .i64 i∧KW W b s2 (uY k1 (k1.P.take i))∧lN w b s k s2 (uY k1 (k1.P.take i))∧w.grownBy W (some b)∧Sl W true 26 (.slice aP k1.P.length cP) (aT.rH k1.P)) (fun t _=>k1.P.length-(intOf t).toNat)
   case atStart=>exact⟨0,s',Nat.zero_le _,rfl,HK.out,HS.out,HG8.out,QN.out⟩
   case round=>
    obtain⟨i,s2,hi,rfl,hkw,hst,qI,hsl⟩:=hrel
    clear HK HS HG8 QN hcb bC bn bA bE tC EH HG2
    have HK:=ah hkw
    have HS:=ah hst
    have HSL:=ah hsl
    have HGW:=ah qI
    have hwz:=qI.size
    clear hkw hst
    by_cases xW:i<k1.P.length
    ·obtain⟨p,hx⟩:∃p,k1.P[i]?=some p:=⟨_,List.getElem?_eq_getElem xW⟩
     have xD:=ah (show uY k1 (k1.P.take (i+1))=F5 (uY k1 (k1.P.take i)) p from NP F5 k1 hx)
     have EB:=H2.out i p hx
     generalize uY k1 (k1.P.take i)=kk at*
     obtain⟨bb,off,rfl,yT,hcell⟩:=hsl.at (aT.H9 hx)
     have qP:=ah hcell
     have ug:=aT.fG p
     unfold F5 at xD
     clear hx hsl hcell
     obtain⟨hcb,bC,bn,bA,bE⟩:=aD.rules HK.out.box
     have KF:=ah (aD.new wr (aT.eT p) 126)
     have Q8:Below wr.heap.size wr (wr.alloc (.cells (aT.eT p) 126)):=(Below.refl _ _).alloc (Nat.le_refl _) _
     have ak2:=ah (HSL.out.below Q8)
     have zK:=ah (HK.out.below Q8)
     have hg4:=aB qI (aA Q8 (some b))
     by_cases h2:p.st=2
     rotate_left
     ·have e2:(p.st !=2)=true:=by simp[h2]
      go_wp2_with(first|((with_reducible refine cK 126 ?_);(refine aN rfl 126 _ rfl bb (off+i*26) ?_ (aT.jQ p) aT.bf (ug) qP.out ?_;(exact aM)))|((with_reducible refine bS 126 ?_);(refine aU rfl 126 _ _ rfl (aT.eT p) aT.bf (ug) aF ?_ ?_ ?_;(exact aM);(exact aM)))|fail)
      go_roundw
      case rel=>
       have hs:=xD.out
       rw[if_neg h2] at hs
       exact⟨i+1,s2,aj,dn,by rw[hs];exact zK.out,by rw[hs];exact HS.out,hg4,ak2.out⟩
      case measure=>simp[intOf];omega
     have e2:(p.st !=2)=false:=uR
     have HT:=ah (fun s W h=>Nz b s kk p.pid (pq p).x W h EB.fit (jR p).x (EB.does h2) (EB.val h2))
     have hL5:=EB.L h2
     have hs:=xD.out
     rw[if_pos h2] at hs
     unfold Co at HT
     generalize Lx (gu kk (aT.bK kk.P p.pid).1 (pq p).x) p.pid (pq p).x=r at*
     obtain⟨k5,on⟩:=r
     dsimp only at HT hL5 hs
     have hcv:=J6 (pq p).x
     have hcc:=KN KF.out
     clear xD EB
     go_wp2_with(first|((with_reducible refine cK 126 ?_);(refine aN rfl 126 _ rfl bb (off+i*26) ?_ (aT.jQ p) aT.bf (ug) qP.out ?_;(exact aM)))|((with_reducible refine bS 126 ?_);(refine aU rfl 126 _ _ rfl (aT.eT p) aT.bf (ug) aF ?_ ?_ ?_;(exact aM);(exact aM)))|((with_reducible refine cK 124 ?_);(refine aN rfl 124 _ rfl wr.heap.size (22) ?_ (vZ (pq p).x) PK (hcv) hcc ?_;(exact aM)))|fail)
     with_reducible refine(HT.out _ _ zK.out).mono ?_
     rintro en w5 ⟨rfl,⟨s5,Uc,C_⟩,nK⟩
     have LP:=nK.size
     simp only[World.size_alloc] at LP
     have agn:=ah (show lN w b s k s5 k5 from fun B hB hne h=>C_ B dF hne (HS.out B hB hne h))
     have sN:=ah Uc
     have ab1:=ah (ak2.out.bO nK (rY zK.out.box ak2.out))
     have KF5:=ah (KF.out.grown nK aV)
     have Zk:=aB hg4 nK
     have agi:=Below.refl w5.heap.size w5
     clear Uc C_ hcc hcb bC bn bA bE
     obtain⟨hcb,bC,bn,bA,bE⟩:=aD.rules sN.out.box
     ((try clear hcf hff hlf hnf hmf);have bx0:=KF5.out;obtain⟨hcf,hff,hlf,hnf,hmf⟩:=aD.rules bx0;have KF6:=ah bx0;clear bx0)
     cases on
     ·simp only[Bool.false_eq_true,if_false] at hs
      go_wp2_with fail
      go_roundw
      case rel=>exact⟨i+1,s5,aj,dn,by rw[hs];exact sN.out,by rw[hs];exact agn.out,Zk,ab1.out⟩
      case measure=>simp[intOf];omega
     ·simp only[if_true] at hs
      go_wp2_with fail
      ((refine aY (fun W=>Below w5.heap.size w5 W) (fun i=>decide (i<12)) ay ?_);
          have xX:Below w5.heap.size w5 w5.drew:=(Below.refl _ _).drew;
          (refine tk 0 87 xX ?_);
          (refine tk 1 88 xX ?_);
          (refine tk 2 89 xX ?_);
          (refine tk 3 90 xX ?_);
          (refine tk 4 91 xX ?_);
          (refine tk 5 92 xX ?_ (hy:=Or.inl ⟨aF,aic⟩));
          (refine tk 6 93 xX ?_);
          (refine tk 7 94 xX ?_ (hy:=Or.inl ⟨aF,aic⟩));
          (refine aJ 8 (oi:=⟨some 95,_,_,_,_,_⟩) rfl ay rfl (fun K hK=>?_));
          (go_simp;(with_reducible refine(HAD.out k5 s5 p.pid _ (sN.out.kr.L.below xX) aj).mono ?_);rintro en w6 ⟨v6,rfl,Ew,hr6,kM⟩;have xX:=xX.trans (Below.mono kM xX.size);obtain⟨a6,m6,n6,rfl⟩:=Ew.is;have ha6:=hr6.apart sN.out.aL (by simp only[bQ];exact sN.out.lt);(have C9:=fun(B:Nat) (hB:B<w5.heap.size) (h:Apart B s5.L (ints k5.L))=>hr6.apart (B:=B) h (by simp only[bQ];exact hB));(try go_wp2_with fail));
          (refine hK.out _ _ (fun _=>b_) ?_;clear hK K);
          (try simp only[pt]);
          (refine tk 9 96 xX ?_);
          (refine tk 10 97 xX ?_);
          (refine tk 11 98 xX ?_);
          (refine aZ 12 ay ?_ rfl);
          simp only[List.toList_toArray,List.drop_succ_cons,List.drop_zero])
      ((try clear hcb bC bn bA bE);have bg:=sN.out.below xX;obtain⟨hcb,bC,bn,bA,bE⟩:=aD.rules bg.box;have CU:=ah bg;clear bg)
      have H6:=ah Ew
      have HA6:=ah ha6
      have HR6:=ah C9
      have UF:=ah (CU.out.add H6.out HA6.out)
      have anF:=ah ((((ab1.out.below xX).bO (aO _ b 1 (.slice a6 m6 n6)) (rY CU.out.box (ab1.out.below xX)))))
      have ab0:=ah (anF.out.bO (aO _ b 2 (.int .i64 (ji.rG k5.L k5.left p.pid).2)) (rY (CU.out.Dw H6.out HA6.out).box anF.out))
      clear Ew hr6 ha6 C9 hcf hff hlf hnf hmf
      go_wp2_with fail
      go_roundw
      case rel=>
       have yS:=aB (aB Zk (aA xX (some b))) (aB (aO _ b 1 (.slice a6 m6 n6)) (aO _ b 2 (.int .i64 (ji.rG k5.L k5.left p.pid).2)))
       refine⟨i+1,{s5 with L:= .slice a6 m6 n6},aj,dn,by rw[hs];exact UF.out,?_,yS,ab0.out⟩
       exact adL
      case measure=>simp[intOf];omega
    ·obtain rfl:i=k1.P.length:=by omega
     rw[List.take_length] at HK HS
     have hy:=HY.out
     go_wp2_with fail
     rw[hy]
     exact bodyPost_end (v:= .tuple #[]) (by simp[results,Tryz.results90,go_sem]) rfl ⟨rfl,⟨s2,HK.out,HS.out⟩,qI⟩
end Go.Proofs.YtgmodehldmahiaaGreatDoor
end
section
namespace Go.Proofs.YtgmodehldmahiaaGreatDoor
open Go Go.RowKit Go.Tm
attribute [local go_sem] fO fM fK d_ dM dZ dY dX dW dV dU dS dR dQ dP dO dN iQ iP iO iN iM iL iK iG iJ iI fU fT fQ fP fI fH fC
noncomputable def iW(k:Kn):Kn:={k with se:=[],want:=0}
noncomputable def zL(k:Kn):Kn:={k with now:=k.now+min 1 (18446744073709551615-k.now)}
noncomputable def lK(k:Kn):Kn:=zL (if k.gone=0 then t_ (mX (iW k)) else iW k)
theorem eU:Ty Tryz.prog 57 17 true:=⟨ay,ay,aC,ay⟩
theorem j5{w:World}{ag:Bool}{n:Nat}{v:Value}{xs:List Value}(h:Sl w ag n v xs):v.oneCell'=true:=by
 obtain⟨_,a,cap,rfl,_⟩:=h;rfl
theorem KR.val{W:World}{s:Ks}{k:Kn}(h:KR W s k):Val true 17 (.agg (kC s k)):=⟨_,rfl,kY s k,by
 rw[gT];intro x hx
 simp only[List.mem_cons,List.not_mem_nil,or_false] at hx
 rcases hx with rfl|rfl|rfl|rfl|rfl|rfl|rfl|rfl|rfl|rfl|rfl|rfl|rfl|rfl|rfl|rfl|rfl
 ·exact j5 h.P
 ·exact j5 h.L
 ·rfl
 ·exact j5 h.S
 ·exact j5 h.Pi
 ·rfl
 ·exact j5 h.H
 ·rfl
 ·exact j5 h.Im
 ·exact j5 h.Ou
 ·exact j5 h.In
 ·exact j5 h.Bx.sl
 ·rfl
 ·exact j5 h.Tr
 ·exact j5 h.Se
 ·rfl
 ·rfl⟩
theorem ag4(s:Ks)(k:Kn):Array.foldl (fun(cs:Array Value) (x:Value×Nat)=>cs.setIfInBounds x.snd x.fst) #[Value.slice none 0 0,Value.slice none 0 0,Value.int IntKind.i64 0,Value.slice none 0 0,Value.slice none 0 0,Value.int IntKind.i64 0,Value.slice none 0 0,Value.int IntKind.u64 0,Value.slice none 0 0,Value.slice none 0 0,Value.slice none 0 0,Value.slice none 0 0,Value.string {data:=#[]},Value.slice none 0 0,Value.slice none 0 0,Value.int IntKind.i64 0,Value.int IntKind.i64 0] (kC s k).zipIdx 0 17=kC s k:=by
 rw[gT];kernel_rfl
theorem alG(s:Ks)(k:Kn):(kC s k)[16]'(by rw[kY];decide)=.int .i64 k.gone:=by
 have h:=fC s k
 rw[Array.getElem?_eq_getElem (by rw[kY];decide)] at h
 exact Option.some.inj h
theorem Cm(z:Array Value)(hz:z.size=17)(s:Ks)(k:Kn):(z.toList.take 0++(Value.agg (kC s k)).cells.toList++z.toList.drop (0+17)).toArray=kC s k:=by
 rw[List.drop_eq_nil_of_le Jh]
 simp[Value.cells]
def Xv:Array Value:=#[.slice none 0 0,.slice none 0 0,.int .i64 0,.slice none 0 0,.slice none 0 0,.int .i64 0,.slice none 0 0,.int .u64 0,.slice none 0 0,.slice none 0 0,.slice none 0 0,.slice none 0 0,.string {data:=#[]},.slice none 0 0,.slice none 0 0,.int .i64 0,.int .i64 0]
theorem vE:Xv.size=17:=rfl
theorem abt{W:World}{b n:Nat}{cs:Array Value}{t:TypeId}{v:Value}{xs:List Value}(hb:aD W b cs t)(hv:Sl W true n v xs)(hn:∀x∈xs,x.cells.toList.length=n)(hsz:cs.size<n):Apart b v xs:=by
 cases xs with
 |nil=>exact .inl rfl
 |cons x r=>
  right
  intro b' hb' yT
  subst yT
  obtain⟨a,cap,rfl,_⟩:=hv.shape
  obtain⟨b2,off,rfl,hlt,hc⟩:=hv.at (i:=0) (x:=x) rfl
  simp only[Value.ownBlock,Option.some.injEq] at hb'
  subst hb'
  have hs:=hn x aI
  have:=hc (n-1) _ (List.getElem?_eq_getElem aj)
  rw[hb.rules.1,Array.getElem?_eq_none aj] at this
  cases this
theorem KR.bP{W W':World}{R:Nat}{s:Ks}{k:Kn}{cs:Array Value}{t:TypeId}{ks:List Nat}(h:KR W s k)(ha:jF R s k)(hb:aD W R cs t)(hk:cs.toList.map kind=ks)(hsz:cs.size<26)
  (h1:yH ks [1,2,2,3]=true)(h2:yH ks [1,4]=true)(h3:yH ks [3,4]=true)(hg:W.grownBy W' (some R)):KR W' s k:=by
 refine⟨h.P.bO hg (abt hb h.P (fun x hx=>?_) hsz),h.L.bO hg ha.1,h.S.bO hg ha.2.2.2.2.1.2.2,h.Pi.bO hg ha.2.2.2.2.2,h.H.bO hg ha.2.1,h.Im.bO hg ha.2.2.1,h.Ou.bO hg ha.2.2.2.1,h.In.bO hg ha.2.2.2.2.1.1,⟨h.Bx.sl.bO hg ha.2.2.2.2.1.2.1,h.Bx.len,?_⟩,?_,?_,h.pi⟩
 ·obtain⟨y,_,rfl⟩:=List.mem_map.1 hx
  show(aT.eT y).toList.length=26
  rw[Array.length_toList,aT.jI]
 ·intro i u x hu hx
  exact(h.Bx.el i u x hu hx).bO hg (lZ hk hb (h.Bx.el i u x hu hx) [3,4] (fun x hx=>oW) h3)
 ·exact h.Tr.bO hg (lZ hk hb h.Tr [1,2,2,3] (fun x hx=>oW) h1)
 ·exact h.Se.bO hg (lZ hk hb h.Se [1,4] (fun x hx=>oW) h2)
theorem bJ{n b:Nat}{w w':World}(h:w.grownBy w' (some b))(hb:n≤b)(hn:n≤w.heap.size):Below n w w':=
 ⟨h.os,h.tape,h.output,h.size,fun j hj=>h.block j aj aV⟩
def Pz(w:World)(s:Ks)(k:Kn)(k':Kn)(e:Ending)(w':World):Prop:=
 ∃s',e=.returned (.agg (kC s' k'))∧KR w' s' k'∧(∀B,B<w.heap.size→jF B s k→jF B s' k')∧Below w.heap.size w w'
structure DX(k:Kn):Prop where
 fit:Fit k
 due:k.gone=0→Tj (rQ (iW k)) (Sleep.um (iW k).S (iW k).now)
 waits:k.gone=0→Ti (lD (rQ (iW k)) (Sleep.um (iW k).S (iW k).now)) (lD (rQ (iW k)) (Sleep.um (iW k).S (iW k).now)).P
 aoL:k.gone=0→Fit (mX (iW k))
 goes:k.gone=0→(mX (iW k)).L≠[]→P8 (mX (iW k))
 now:k.gone=0→0≤(t_ (mX (iW k))).now∧(t_ (mX (iW k))).now≤18446744073709551615
theorem Fit.zero{k:Kn}(h:Fit k):Fit (iW k):={h with se:=by simp[iW]}
theorem aeD(s:Ks)(k:Kn)(w:World)(hr:KR w s k)(hT:jw w)(hf:DX k):
  Calls Tryz.prog 78 #[.agg (kC s k)] w (Pz w s k (lK k)):=by
 have HR:=ah hr
 have MQ:=hr.val
 have HF:=ah hf
 have hsz:=kY s k
 have RF:=ag4 s k
 have UC:=alG s k
 have hT':=hT
 have arP:=hf.fit
 clear hr
 go_enter Tryz.func78,Tryz.ntmps78
 go_upto_if 20 with(first|((with_reducible refine cK 57 ?_);(refine aK rfl 57 _ rfl (kC s k) eU (MQ) ((aD.new w (kC s k) 57).alloc _) ?_ ?_;(exact aM)))|fail)
 generalize bR:World.alloc _ _=w1
 have KB:aD w1 (w.heap.size+1+1) (kC {s with Se:= .slice none 0 0} (iW k)) kT:=by
  rw[←bR]
  refine(aD.p9 _ _ _ aI).cast ?_
  rw[VT,VR]
  rw[gT,gT];rfl
 have KRB:aD w1 (w.heap.size+1) Xv 57:=by rw[←bR];exact(aD.p9 _ _ _ aI).alloc _
 have hb1:Below w.heap.size w w1:=bN
 have hz1:w.heap.size+1+1+1≤w1.heap.size:=bX
 have ML:KW w1 (w.heap.size+1+1) {s with Se:= .slice none 0 0} (iW k):=
  ⟨KB,{HR.out.below hb1 with Se:=Sl.nil w1 true 2},HR.out.L.apart aj,HR.out.Im.apart aj,HR.out.Bx.sl.apart aj⟩
 have qA:=ah ML
 have KRZ:=ah KRB
 have UZ:=Below.refl w1.heap.size w1
 clear bR ML KB KRB hsz RF UC MQ hT'
 ((try clear hcb bC bn bA bE);have bg:=qA.out.below UZ;obtain⟨hcb,bC,bn,bA,bE⟩:=aD.rules bg.box;have lG:=ah bg;clear bg)
 by_cases hg:k.gone=0
 ·have e0:(k.gone==0)=true:=by simp[hg]
  go_wp2_with fail
  with_reducible refine(ZG _ _ _ _ qA.out hf.fit.zero (hf.due hg) (hf.waits hg)).mono ?_
  rintro en w2 ⟨rfl,⟨s2,kw2,GZ⟩,hg2⟩
  have hz2:=hg2.size
  have hT2:jw w2:=(hT.below hb1).grown hg2 aj
  have tC:=ah kw2
  have asC:=Below.refl w2.heap.size w2
  clear kw2
  go_wp2_with fail
  with_reducible refine(afi _ _ _ _ tC.out (hf.aoL hg) hT2 (hf.goes hg)).mono ?_
  rintro en w3 ⟨rfl,⟨s3,FK,Oo⟩,hg3⟩
  have hz3:=hg3.size
  have vQ:∀B,B<w1.heap.size→B≠w.heap.size+1+1→jF B s k→jF B s3 (t_ (mX (iW k))):=fun B hB hne h=>Oo B aj hne (GZ B hB hne h)
  have gZ:Below w.heap.size w w3:=hb1.trans ((bJ hg2 aj aj).trans (bJ hg3 aj aj))
  have pF:=ah FK
  have KR3:=ah ((KRZ.out.grown hg2 aI).grown hg3 aI)
  have aq8:=Below.refl w3.heap.size w3
  clear FK hcb bC bn bA bE
  ((try clear hcb bC bn bA bE);have bg:=pF.out.below aq8;obtain⟨hcb,bC,bn,bA,bE⟩:=aD.rules bg.box;have zK:=ah bg;clear bg)
  have QW:0≤(t_ (mX (iW k))).now∧(t_ (mX (iW k))).now≤18446744073709551615:=hf.now hg
  go_wp2_with fail
  with_reducible refine(Sleep.E5 (t_ (mX (iW k))).now 1 _ QW aC).mono ?_
  rintro en w8 ⟨rfl,ku⟩
  ((try clear hcb bC bn bA bE);have bg:=pF.out.below ku;obtain⟨hcb,bC,bn,bA,bE⟩:=aD.rules bg.box;have UF:=ah bg;clear bg)
  have KR8:=ah (KR3.out.below ku KR3.out.lt)
  have hrl:=KR8.out.lt
  have MU:Xv.size=17:=rfl
  have Uu:=ku.size
  go_wp2_with(first|((with_reducible refine cK 57 ?_);generalize bR:World.setCell _ _ _=w9;have BI:KW w9 (w.heap.size+1+1) (s3) (zL (t_ (mX (iW k)))):=(by rw[←bR];exact UF.out.Yb _);have YZ:=ah (show aD w9 (w.heap.size+1) (Xv) 57 from by rw[←bR];exact KR8.out.other _ _ aI);have FU:=ah BI;have zD:=BI.kr.val;have Qr:w8.heap.size≤w9.heap.size:=bX;have nE:w8.grownBy w9 (some (w.heap.size+1+1)):=qg;clear bR BI hcb bC bn bA bE;(refine aK rfl 57 _ rfl (kC (s3) (zL (t_ (mX (iW k))))) eU zD FU.out.box ?_ ?_;(exact aM)))|((with_reducible refine bS 57 ?_);(refine aR rfl 57 _ _ rfl YZ.out (.agg (kC (s3) (zL (t_ (mX (iW k)))))) eU (zD) ?_ (_) (Cm _ vE _ _) ?_ ?_ ?_;(exact gG);(exact aM);(exact aM);(intro zw IK Dc abD uK;have Mk:=ah IK)))|fail)
  have hy:lK k=zL (t_ (mX (iW k))):=by unfold lK;rw[if_pos hg]
  rw[hy]
  have sK:KR zw (s3) (zL (t_ (mX (iW k)))):=FU.out.kr.bP (R:=w.heap.size+1) (ks:=nH) (vQ _ aj aj (HR.out.away aj)) YZ.out rfl aC aC aC aC Dc
  refine jH Tryz.results78 eU zD aF Mk.out rfl ⟨s3,rfl,sK,(fun B hB h=>vQ B aj aj h),?_⟩
  exact gZ.trans ((ku.mono aj).trans ((bJ nE aj aj).trans (uK.mono aj)))
 ·have e0:(k.gone==0)=false:=by simp[hg]
  have bW:=hb1
  have QW:0≤(iW k).now∧(iW k).now≤18446744073709551615:=hf.fit.now
  go_wp2_with fail
  with_reducible refine(Sleep.E5 (iW k).now 1 _ QW aC).mono ?_
  rintro en w8 ⟨rfl,ku⟩
  ((try clear hcb bC bn bA bE);have bg:=qA.out.below ku;obtain⟨hcb,bC,bn,bA,bE⟩:=aD.rules bg.box;have UF:=ah bg;clear bg)
  have KR8:=ah (KRZ.out.below ku KRZ.out.lt)
  have hrl:=KR8.out.lt
  have MU:Xv.size=17:=rfl
  have Uu:=ku.size
  go_wp2_with(first|((with_reducible refine cK 57 ?_);generalize bR:World.setCell _ _ _=w9;have BI:KW w9 (w.heap.size+1+1) ({s with Se:= .slice none 0 0}) (zL (iW k)):=(by rw[←bR];exact UF.out.Yb _);have YZ:=ah (show aD w9 (w.heap.size+1) (Xv) 57 from by rw[←bR];exact KR8.out.other _ _ aI);have FU:=ah BI;have zD:=BI.kr.val;have Qr:w8.heap.size≤w9.heap.size:=bX;have nE:w8.grownBy w9 (some (w.heap.size+1+1)):=qg;clear bR BI hcb bC bn bA bE;(refine aK rfl 57 _ rfl (kC ({s with Se:= .slice none 0 0}) (zL (iW k))) eU zD FU.out.box ?_ ?_;(exact aM)))|((with_reducible refine bS 57 ?_);(refine aR rfl 57 _ _ rfl YZ.out (.agg (kC ({s with Se:= .slice none 0 0}) (zL (iW k)))) eU (zD) ?_ (_) (Cm _ vE _ _) ?_ ?_ ?_;(exact gG);(exact aM);(exact aM);(intro zw IK Dc abD uK;have Mk:=ah IK)))|fail)
  have hy:lK k=zL (iW k):=by unfold lK;rw[if_neg hg]
  rw[hy]
  have sK:KR zw ({s with Se:= .slice none 0 0}) (zL (iW k)):=FU.out.kr.bP (R:=w.heap.size+1) (ks:=nH) (HR.out.away aj) YZ.out rfl aC aC aC aC Dc
  refine jH Tryz.results78 eU zD aF Mk.out rfl ⟨{s with Se:= .slice none 0 0},rfl,sK,(fun B hB h=>h),?_⟩
  exact hb1.trans ((ku.mono aj).trans ((bJ nE aj aj).trans (uK.mono aj)))
end Go.Proofs.YtgmodehldmahiaaGreatDoor
end
