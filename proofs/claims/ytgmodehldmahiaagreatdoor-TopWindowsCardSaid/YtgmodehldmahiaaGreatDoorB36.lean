/- Part 36 of 53 of the proof of topAlone_and_topApart. Conditions: see each. -/
import Derived.Test.YtgmodehldmahiaaGreatDoorB14
import Derived.Test.YtgmodehldmahiaaGreatDoorB25
import Derived.Test.YtgmodehldmahiaaGreatDoorB35
set_option linter.unusedVariables false
set_option linter.unusedSimpArgs false
set_option maxRecDepth 8192
set_option maxHeartbeats 40000000
section
namespace Go.Proofs.YtgmodehldmahiaaGreatDoor
open Go Go.RowKit Go.Tm
def uZ(c:aW.Ch)(ms:List Ms)(lost now:Int)(body:ByteArray):List Ms×Int×Int:=
 if c.2.2.2.1<body.size then(ms,lost,4) else if c.1=1 then([(now,body)],lost,0) else if ms.length<c.2.2.2.2 then(ms++[(now,body)],lost,0) else(ms,wrap64 (lost+1),0)
theorem ale:∃i,TyM Tryz.prog 138 2 true i (.agg #[.int .u64 0,.string ⟨#[]⟩]) 24 91:=by
 have h:(Tryz.prog.info? 138).map (fun i=>(i.zero,i.size,i.bytes))=some (some (.agg #[.int .u64 0,.string ⟨#[]⟩]),2,24):=ay
 obtain⟨i,hi,hz,hs,hb⟩:=info_parts h
 exact⟨i,XP,Tryz.underlying91,hi,hz,hs,hb,rfl⟩
theorem aeL(c:aW.Ch)(u:Value)(ms:List Ms)(lost now:Int)(body:ByteArray)(w:World)(hu:Sl w true 2 u (ms.map Bg))(YL:ms.length≤1000000000)(FN:body.size≤9223372036854775807):
  Calls Tryz.prog 118 #[aW.uG c,.agg #[u,.int .i64 lost],.int .u64 now,.string body] w fun en w'=>∃u',en=.returned (.tuple #[.agg #[u',.int .i64 (uZ c ms lost now body).2.1],.int .i64 (uZ c ms lost now body).2.2])∧Sl w' true 2 u' ((uZ c ms lost now body).1.map Bg)∧Below w.heap.size w w':=by
 have HU:=ah hu
 obtain⟨r,hr⟩:∃r,r=uZ c ms lost now body:=⟨_,rfl⟩
 rw[←hr]
 unfold uZ at hr
 have HC:=Sl.xI (m:=ms.length) XP Tryz.underlying91 hu (ms.length:Int) rfl aI
 obtain⟨kd,fr,tt,sz,dp⟩:=c
 dsimp only at hr
 obtain⟨i0,hM⟩:=ale
 obtain⟨a,cap,rfl,hl⟩:=hu.shape
 rw[DL] at hl HU HC⊢
 by_cases h1:sz<body.size
 ·rw[if_pos h1] at hr
  subst hr
  clear hu HC
  go_enter Tryz.func118,Tryz.ntmps118
  go_wp2_with fail
  exact bodyPost_ret (v:= .tuple #[.agg #[.slice a ms.length cap,.int .i64 lost],.int .i64 4]) ac' rfl ⟨_,rfl,HU.out.below aG,aG⟩
 ·rw[if_neg h1] at hr
  by_cases h2:kd=1
  ·subst h2
   rw[if_pos rfl] at hr
   subst hr
   clear hu HC
   go_enter Tryz.func118,Tryz.ntmps118
   go_wp2_with(first|((with_reducible refine DF 91 ?_);(refine BD rfl _ rfl hM aC (Bg (now,body)) ?_ (JC _) ?_;(exact aM)))|((with_reducible refine Px ?_);(refine Ag rfl rfl hM none [] ?_ ?_ (w.heap.size+1+1+1) (Bg (now,body)) (Sl.pQ (JC _) aI) ?_ ?_ ?_ ?_;(exact aM);(focus(exact Sl.nil _ _ _));(exact aM);(focus(decide));(focus(decide));(intro g9 n9 w9 BJ oN;have b2:aD w9 (w.heap.size+1) #[.slice none 0 0,.int .i64 lost] 93:=yY;obtain⟨hc2,hf2,hl2,rD,nS⟩:=b2.rules;have K2:=ah b2;clear b2;have b3:aD w9 (w.heap.size+1+1) #[.slice none 0 0,.int .i64 0] 93:=yC;obtain⟨hc3,hf3,qM,wX,qL⟩:=b3.rules;have K3:=ah b3;clear b3;have mO:Below w.heap.size w w9:=aG;have GX:=ah BJ.sl;have nE:=BJ.iy g9 rfl;simp only[World.size_alloc,World.size_setCell,bQ] at nE;clear BJ oN)))|fail)
   exact bodyPost_ret (v:= .tuple #[.agg #[.slice (some ⟨g9,0,none⟩) 1 n9,.int .i64 lost],.int .i64 0]) adA rfl ⟨_,rfl,by
    refine Sl.setOther (Sl.setOther (Sl.setOther ?_ ?_ _ _) ?_ _ _) ?_ _ _
    ·exact GX.out
    all_goals(right;intro b hb;simp only[Value.ownBlock,Option.some.injEq] at hb;omega),aG⟩
  ·rw[if_neg h2] at hr
   have ek:(kd==1)=false:=uR
   by_cases h3:ms.length<dp
   ·rw[if_pos h3] at hr
    subst hr
    obtain⟨ao,hrun,hsl⟩:=HC
    rw[List.take_of_length_le aI] at hsl
    have HS:=ah hsl
    clear hu hsl
    go_enter Tryz.func118,Tryz.ntmps118
    go_wp2_with(first|((with_reducible refine DF 91 ?_);(refine BD rfl _ rfl hM aC (Bg (now,body)) ?_ (JC _) ?_;(exact aM)))|((with_reducible refine Px ?_);(refine Ag rfl rfl hM ao (ms.map Bg) ?_ ?_ (w.heap.size+1+1+1) (Bg (now,body)) (Sl.pQ (JC _) aI) ?_ ?_ ?_ ?_;(exact aM);(focus((try rw[DL]);exact HS.out.below aG));(exact aM);(focus(simp[maxLen];omega));(focus(simp;omega));(intro g9 n9 w9 BJ oN;have b2:aD w9 (w.heap.size+1) #[.slice a ms.length cap,.int .i64 lost] 93:=yY;obtain⟨hc2,hf2,hl2,rD,nS⟩:=b2.rules;have K2:=ah b2;clear b2;have b3:aD w9 (w.heap.size+1+1) #[.slice none 0 0,.int .i64 0] 93:=yC;obtain⟨hc3,hf3,qM,wX,qL⟩:=b3.rules;have K3:=ah b3;clear b3;have mO:Below w.heap.size w w9:=aG;have GX:=ah BJ.sl;have nE:=BJ.iy g9 rfl;simp only[World.size_alloc,World.size_setCell,bQ] at nE;clear BJ oN)))|fail)
    exact bodyPost_ret (v:= .tuple #[.agg #[.slice (some ⟨g9,0,none⟩) (ms.length+1) n9,.int .i64 lost],.int .i64 0]) adA rfl ⟨_,rfl,by
    refine Sl.setOther (Sl.setOther (Sl.setOther ?_ ?_ _ _) ?_ _ _) ?_ _ _
    ·simpa using GX.out
    all_goals(right;intro b hb;simp only[Value.ownBlock,Option.some.injEq] at hb;omega),aG⟩
   ·rw[if_neg h3] at hr
    subst hr
    clear hu HC
    go_enter Tryz.func118,Tryz.ntmps118
    go_wp2_with fail
    exact bodyPost_ret (v:= .tuple #[.agg #[.slice a ms.length cap,.int .i64 (wrap64 (lost+1))],.int .i64 0]) ac' rfl ⟨_,rfl,HU.out.below aG,aG⟩
end Go.Proofs.YtgmodehldmahiaaGreatDoor
end
section
namespace Go.Proofs.YtgmodehldmahiaaGreatDoor
open Go Go.RowKit Go.Tm
attribute [local go_sem] fO fM fK d_ dM dZ dY dX dW dV dU dS dR dQ dP dO dN iQ iP iO iN iM iL iK iG iJ iI fU fT fQ fP fI fH fC
noncomputable def kZ(k:Kn)(n:Int)(body:ByteArray)(now:Int):Kn:=
 if n<0∨(k.ins.length:Int)≤n∨(k.bx.length:Int)≤n then k
 else{k with bx:=k.bx.set n.toNat ⟨(uZ (vY k n) (rR k n).ms (rR k n).lost now body).1,(uZ (vY k n) (rR k n).ms (rR k n).lost now body).2.1⟩}
theorem Xo(s:Ks)(k:Kn)(n:Int)(body:ByteArray)(now:Int)(w:World)(hr:KR w s k)(hk:Fit k)(hn:n<0∨(k.ins.length:Int)≤n∨(k.bx.length:Int)≤n):
  Calls Tryz.prog 94 #[.agg (kC s k),.int .i64 n,.string body,.int .u64 now] w (Pz w s k k):=by
 have HR:=ah hr
 have MQ:=hr.val
 have hbl:=hk.bx
 have xW:=hk.ins
 have Am:=hr.Bx.len
 obtain⟨ai,ci,hvi,vT⟩:=hr.In.shape
 obtain⟨ab,cb,hvb,bn⟩:=hr.Bx.sl.shape
 rw[aW.oG] at hvi vT
 rw[sW Am] at hvb bn
 clear hr
 have hd:(decide (n<0)=true)∨(decide (n<0)=false∧decide ((k.ins.length:Int)≤n)=true)∨(decide (n<0)=false∧decide ((k.ins.length:Int)≤n)=false∧decide ((k.bx.length:Int)≤n)=true):=by
  simp only[decide_eq_true_eq,decide_eq_false_iff_not]
  omega
 clear hn
 rcases hd with e1|⟨e1,e2⟩|⟨e1,e2,e3⟩
 all_goals
  go_enter Tryz.func94,Tryz.ntmps94
  go_upto_if 26 with fail
  (generalize bR:World.alloc _ _=w0;have KB:aD w0 (w.heap.size) (kC s k) 57:=bH;have KZ:aD w0 (w.heap.size+1) (Xv) 57:=bH;have hb0:Below w.heap.size w w0:=bN;have hz0:w0.heap.size=w.heap.size+1+1:=bX;clear bR;have KB:=ah KB;have KZ:=ah KZ)
  have hw0:=HR.out.below hb0
  have hcb:=KB.out.rules.1
  have MU:Xv.size=17:=rfl
  go_wp2_with(first|((with_reducible refine cK 57 ?_);(refine aK rfl 57 _ rfl (kC s k) eU (MQ) KB.out ?_ ?_;(exact aM)))|((with_reducible refine bS 57 ?_);(refine aR rfl 57 _ _ rfl KZ.out (.agg (kC s k)) eU (MQ) ?_ (_) (Cm _ vE _ _) ?_ ?_ ?_;(exact gG);(exact aM);(exact aM);(intro zw IK Dc abD uK;have Mk:=ah IK)))|fail)
  have sK:=hw0.bP (R:=w.heap.size+1) (ks:=nH) (HR.out.away aj) KZ.out rfl aC aC aC aC Dc
  exact jH Tryz.results94 eU MQ aF Mk.out rfl ⟨s,rfl,sK,fun _ _ h=>h,hb0.trans (uK.mono aj)⟩
theorem KO{W:World}{qa:Nat}{i:Int}{a:Option Addr}{m n:Nat}{t:TypeId}{v:Value}{l:List Ms}(hB:aD W qa #[.slice a m n,.int .i64 i] t)(hs:Sl W true 2 v (l.map Bg))(v0 v1:Value):Sl ((W.setCell ⟨qa,0,none⟩ v0).setCell ⟨qa,1,none⟩ v1) true 2 v (l.map Bg):=
 have ap:=lZ (ks:=[5,1]) rfl hB hs [3,4] (fun x hx=>oW) aC
 (hs.setOther ap _ _).setOther ap _ _
theorem aaR{W:World}{s:Ks}{k:Kn}(h:KR W s k)(a:Option Addr)(m n:Nat):Val true 17 (.agg (kC {s with Bx:= .slice a m n} k)):=⟨_,rfl,kY _ k,by
 rw[gT];intro x hx
 simp only[List.mem_cons,List.not_mem_nil,or_false] at hx
 rcases hx with rfl|rfl|rfl|rfl|rfl|rfl|rfl|rfl|rfl|rfl|rfl|rfl|rfl|rfl|rfl|rfl|rfl
 ·exact j5 h.P
 ·exact j5 h.L
 ·rfl
 ·exact j5 h.S
 ·exact j5 h.Pi
 ·rfl
 ·exact j5 h.H
 ·rfl
 ·exact j5 h.Im
 ·exact j5 h.Ou
 ·exact j5 h.In
 ·rfl
 ·rfl
 ·exact j5 h.Tr
 ·exact j5 h.Se
 ·rfl
 ·rfl⟩
theorem abp(s:Ks)(k:Kn)(m:Nat)(body:ByteArray)(now:Int)(w:World)(hr:KR w s k)(hk:Fit k)(h1:m<k.ins.length)(h2:m<k.bx.length)(FN:body.size≤9223372036854775807):
  Calls Tryz.prog 94 #[.agg (kC s k),.int .i64 m,.string body,.int .u64 now] w (Pz w s k (kZ k m body now)):=by
 have HR:=ah hr
 have MQ:=hr.val
 have hbl:=hk.bx
 have xW:=hk.ins
 have Am:=hr.Bx.len
 have YI:=hr.In
 have MN:=hr.Bx.sl
 obtain⟨ai,ci,hvi,vT⟩:=YI.shape
 obtain⟨ab,cb,hvb,bn⟩:=MN.shape
 rw[aW.oG] at hvi vT
 rw[sW Am] at hvb bn
 obtain⟨c,hc⟩:∃c,k.ins[m]?=some c:=⟨_,List.getElem?_eq_getElem aj⟩
 obtain⟨bb,yT⟩:∃bb,k.bx[m]?=some bb:=⟨_,List.getElem?_eq_getElem aj⟩
 obtain⟨ub,hub⟩:∃ub,s.bs[m]?=some ub:=⟨_,List.getElem?_eq_getElem aj⟩
 have hia:vY k m=c:=ahV
 have hba:rR k m=bb:=ahY
 obtain⟨y,hy⟩:∃y,y=kZ k m body now:=⟨_,rfl⟩
 rw[←hy]
 unfold kZ at hy
 rw[if_neg aj,hia,hba,Int.toNat_natCast] at hy
 have Zf:=hr.Bx.el m ub bb hub yT
 have Zo:=hk.XC bb (List.mem_of_getElem? yT)
 have HSE:=ah (fun W h=>aeL c ub bb.ms bb.lost now body W h Zo.1 FN)
 obtain⟨au,mu,cu,rfl⟩:=Zf.is
 generalize uZ c bb.ms bb.lost now body=r at*
 obtain⟨r1,r2,r3⟩:=r
 dsimp only at HSE hy
 rw[hvi] at YI
 rw[hvb] at MN
 have HSB:=ah MN
 obtain⟨bi,oi,rfl,FP,LV⟩:=YI.at (i:=m) (x:=aW.uG c) (aW.Av hc)
 obtain⟨bo,oo,rfl,aqU,hco⟩:=MN.at (i:=m) (x:=QC (.slice au mu cu) bb) (Ec hub yT)
 have HCI:=ah LV
 have HCO:=ah hco
 have hvc:Val true 5 (aW.uG c):=aW.z_ c
 have hvo:Val true 2 (QC (.slice au mu cu) bb):=MN.val _ (List.mem_of_getElem? (Ec hub yT))
 have hm0:(0:Int)≤(m:Int):=aj
 have HUB:=ah Zf
 have HY:=ah hy
 have e1:decide ((m:Int)<0)=false:=decide_eq_false aj
 have e2:decide ((k.ins.length:Int)≤(m:Int))=false:=decide_eq_false aj
 have e3:decide ((k.bx.length:Int)≤(m:Int))=false:=decide_eq_false aj
 have e2n:decide (k.ins.length≤m)=false:=decide_eq_false aj
 have e3n:decide (k.bx.length≤m)=false:=decide_eq_false aj
 clear hr YI MN LV hco Zf hy
 go_enter Tryz.func94,Tryz.ntmps94
 go_upto_if 26 with fail
 (generalize bR:World.alloc _ _=w0;have KB:aD w0 (w.heap.size) (kC s k) 57:=bH;have KZ:aD w0 (w.heap.size+1) (Xv) 57:=bH;have hb0:Below w.heap.size w w0:=bN;have hz0:w0.heap.size=w.heap.size+1+1:=bX;clear bR;have KB:=ah KB;have KZ:=ah KZ)
 have vO:w.heap.size+1+1≤w0.heap.size:=aj
 clear hz0
 obtain⟨hcb,bC,amO,bA,bE⟩:=aD.rules KB.out
 go_wp2_with fail
 refine RN (fun qa ao m4 n4 W=>aD W qa #[.slice ao m4 n4,.int .i64 r2] 93∧Sl W true 2 (.slice ao m4 n4) (r1.map Bg)∧Below w0.heap.size w0 W∧w0.heap.size≤qa) ?G ?_ ?_
 rotate_left
 ·((refine aY (fun W=>Below w0.heap.size w0 W) (fun i=>decide (i<17)&&i !=15) ay ?_);
          have hS:Below w0.heap.size w0 w0.drew:=(Below.refl _ _).drew;
          (refine tk 0 29 hS ?_);
          (refine tk 1 30 hS ?_ (hy:=Or.inl ⟨aF,ah5⟩));
          (refine tk 2 31 hS ?_);
          (refine tk 3 32 hS ?_);
          (refine bL 4 (oi:=⟨some 33,_,_,_,_,_⟩) rfl ay om hS (jh 95 _ rfl (b:=bi) (off:=oi+m*5) (aW.uG c).cells aW.kK hvc aF bG (fun W hs=>HCI.out.below (hb0.trans (hs.mono hb0.size)) FP)) ?_);
          (try simp only[pt]);
          (refine tk 5 34 hS ?_);
          (refine tk 6 35 hS ?_ (hy:=Or.inl ⟨aF,ah5⟩));
          (refine tk 7 36 hS ?_);
          (refine tk 8 37 hS ?_);
          (refine bL 9 (oi:=⟨some 38,_,_,_,_,_⟩) rfl ay om hS (jh 93 _ rfl (b:=bo) (off:=oo+m*2) (QC (.slice au mu cu) bb).cells Nl hvo aF bG (fun W hs=>HCO.out.below (hb0.trans (hs.mono hb0.size)) aqU)) ?_);
          (try simp only[pt]);
          (refine tk 10 39 hS ?_);
          (refine tk 11 40 hS ?_);
          (refine eX 12 16 (oi:=⟨some 41,_,_,_,_,_⟩) (oj:=⟨some 9,_,_,_,_,_⟩) rfl rfl ay rfl rfl (fun K hK=>?_) (fun K hK=>?_));
          (focus((go_simp;(with_reducible refine(HSE.out _ (HUB.out.below (hb0.trans (hS.mono hb0.size)))).mono ?_);rintro en w3 ⟨v3,rfl,hs3,hb3⟩;have hS:=hS.trans (Below.mono hb3 hS.size);obtain⟨a3,m3,n3,rfl⟩:=hs3.is;(try(have bT:=aD.below bT hb3 bT.lt));(try go_wp2_with fail));(refine hK.out _ _ (fun _=>b_) ?_;clear hK K);(try simp only[pt]);(refine tk 13 28 hS ?_);(try simp only[pt]);(refine bV 15 (oi:=⟨some 43,_,_,_,_,_⟩) (v:=?_) rfl ay om (Or.inl ⟨aF,?_⟩) ?_;rotate_left;focus(intro W hW;go_simp;(all_goals with_reducible rfl)));(try simp only[pt]);(refine tk 14 42 hS ?_);(try simp only[pt]);(refine aJ 16 (oi:=⟨some 9,_,_,_,_,_⟩) rfl ay rfl (fun K hK=>?_));(refine eF 93 rfl (z:= .agg #[.slice none 0 0,.int .i64 0]) ay #[.slice none 0 0,.int .i64 0] rfl ?_);(refine hidS hK (hS.alloc hS.size _) (fun hS=>?_);clear hK K);(try simp only[pt]);(first|(have bT:=aD.new w3 #[.slice none 0 0,.int .i64 0] 93;have dK:Below w3.heap.size w3 (w3.alloc (.cells #[.slice none 0 0,.int .i64 0] 93)):=(Below.refl _ _).alloc (Nat.le_refl _) _;have gy:w0.heap.size≤w3.heap.size:=ahW;generalize w3.alloc (.cells #[.slice none 0 0,.int .i64 0] 93)=w5 at hS bT dK⊢;generalize w3.heap.size=qa at bT gy⊢)|(have bT:=aD.new w0.drew #[.slice none 0 0,.int .i64 0] 93;have dK:Below w0.drew.heap.size w0.drew (w0.drew.alloc (.cells #[.slice none 0 0,.int .i64 0] 93)):=(Below.refl _ _).alloc (Nat.le_refl _) _;have gy:w0.heap.size≤w0.drew.heap.size:=XK;generalize w0.drew.alloc (.cells #[.slice none 0 0,.int .i64 0] 93)=w5 at hS bT dK⊢;generalize w0.drew.heap.size=qa at bT gy⊢));exact ajg));
          (focus((refine eF 93 rfl (z:= .agg #[.slice none 0 0,.int .i64 0]) ay #[.slice none 0 0,.int .i64 0] rfl ?_);(refine hidS hK (hS.alloc hS.size _) (fun hS=>?_);clear hK K);(try simp only[pt]);(first|(have bT:=aD.new w3 #[.slice none 0 0,.int .i64 0] 93;have dK:Below w3.heap.size w3 (w3.alloc (.cells #[.slice none 0 0,.int .i64 0] 93)):=(Below.refl _ _).alloc (Nat.le_refl _) _;have gy:w0.heap.size≤w3.heap.size:=ahW;generalize w3.alloc (.cells #[.slice none 0 0,.int .i64 0] 93)=w5 at hS bT dK⊢;generalize w3.heap.size=qa at bT gy⊢)|(have bT:=aD.new w0.drew #[.slice none 0 0,.int .i64 0] 93;have dK:Below w0.drew.heap.size w0.drew (w0.drew.alloc (.cells #[.slice none 0 0,.int .i64 0] 93)):=(Below.refl _ _).alloc (Nat.le_refl _) _;have gy:w0.heap.size≤w0.drew.heap.size:=XK;generalize w0.drew.alloc (.cells #[.slice none 0 0,.int .i64 0] 93)=w5 at hS bT dK⊢;generalize w0.drew.heap.size=qa at bT gy⊢));(refine aJ 12 (oi:=⟨some 41,_,_,_,_,_⟩) rfl ay rfl (fun K hK=>?_));(go_simp;(with_reducible refine(HSE.out _ (HUB.out.below (hb0.trans (hS.mono hb0.size)))).mono ?_);rintro en w3 ⟨v3,rfl,hs3,hb3⟩;have hS:=hS.trans (Below.mono hb3 hS.size);obtain⟨a3,m3,n3,rfl⟩:=hs3.is;(try(have bT:=aD.below bT hb3 bT.lt));(try go_wp2_with fail));(refine hK.out _ _ (fun _=>b_) ?_;clear hK K);(try simp only[pt]);(refine tk 13 28 hS ?_);(try simp only[pt]);(refine bV 15 (oi:=⟨some 43,_,_,_,_,_⟩) (v:=?_) rfl ay om (Or.inl ⟨aF,?_⟩) ?_;rotate_left;focus(intro W hW;go_simp;(all_goals with_reducible rfl)));(try simp only[pt]);(refine tk 14 42 hS ?_);(try simp only[pt]);exact ajg)))
 rintro qa ao m4 n4 w2 ⟨uh,hs2,qG,GQ⟩
 have hz2:=qG.size
 have qO:=ah (KB.out.below qG KB.out.lt)
 have Uk:=ah (KZ.out.below qG KZ.out.lt)
 have KA2:=ah uh
 have HS2:=ah hs2
 have bM:=hb0.trans (qG.mono hb0.size)
 have arq:=ah (HSB.out.below bM)
 clear uh hs2 hcb bC amO bA bE HCI HCO HSE HUB
 obtain⟨hcb,bC,bn,bA,bE⟩:=aD.rules qO.out
 go_wp2_with fail
 with_reducible refine(SX _ (vS s.bs k.bx) _ arq.out EN).mono ?_
 rintro en w8 ⟨v8,rfl,AY,ku⟩
 obtain⟨g,n6,rfl,UQ,abN,hbg,N_,hfg,hcg⟩:=AY.form EN
 rw[sW Am] at AY UQ
 have Uu:=ku.size
 have xg:=ah (qO.out.below ku qO.out.lt)
 have KZ8:=ah (Uk.out.below ku Uk.out.lt)
 have KA8:=ah (KA2.out.below ku KA2.out.lt)
 have Ba:=ah AY
 have Xz:=KA2.out.lt
 clear hfg hcg AY hcb bC bn bA bE
 obtain⟨hcb,bC,bn,bA,bE⟩:=aD.rules xg.out
 obtain⟨BK,hfy,hly,hny,hmy⟩:=aD.rules KA8.out
 have Ey:m<(vS s.bs k.bx).length:=EN
 have hvn:Val true 2 (.agg #[.slice ao m4 n4,.int .i64 r2]):=⟨_,rfl,rfl,FX⟩
 have MU:Xv.size=17:=rfl
 have nE:=aO w8 w.heap.size 11 (.slice (some ⟨g,0,none⟩) k.bx.length n6)
 have GX:=ah (Ba.out.Dx nE aj)
 have Io:=ah ((xg.out.set 11 (.slice (some ⟨g,0,none⟩) k.bx.length n6)).cast (VU s k _))
 have ac2:=aaR HR.out (some ⟨g,0,none⟩) k.bx.length n6
 have Qr:=nE.size
 go_wp2_with(first|((with_reducible refine bS 93 ?_);(refine eB (base:=w2.heap.size) rfl _ _ rfl Nl g k.bx.length n6 GX.out m Ey ?_ (.agg #[.slice ao m4 n4,.int .i64 r2]) ?_ hvn ?_;(exact aM);(exact aM);(intro rT Db qR;have IU:=ah Db;have arn:=ah (Io.out.grown qR aV);have anq:=ah ((KZ8.out.other _ _ aI).grown qR aV);have ab5:=ah qR;clear Db hcb BK)))|((with_reducible refine cK 57 ?_);(refine aK rfl 57 _ rfl (kC {s with Bx:= .slice (some ⟨g,0,none⟩) k.bx.length n6} k) eU (ac2) arn.out ?_ ?_;(exact aM)))|((with_reducible refine bS 57 ?_);(refine aR rfl 57 _ _ rfl anq.out (.agg (kC {s with Bx:= .slice (some ⟨g,0,none⟩) k.bx.length n6} k)) eU (ac2) ?_ (_) (Cm _ vE _ _) ?_ ?_ ?_;(exact gG);(exact aM);(exact aM);(intro N7 nN oP zB f_;have pI:=ah nN)))|fail)
 have qR:=ab5.out
 have ar1:=qR.size
 have hso:=IU.out.sl
 rw[show(Value.agg #[.slice ao m4 n4,.int .i64 r2])=QC (.slice ao m4 n4) ⟨r1,r2⟩ from rfl,Ta Am] at hso
 have aq5:Below w.heap.size w8 (w8.setCell ⟨w.heap.size,11,none⟩ (.slice (some ⟨g,0,none⟩) k.bx.length n6)):=bJ nE (Nat.le_refl _) aj
 have ac4:Below w.heap.size w rT:=bM.trans ((ku.mono aj).trans (aq5.trans (bJ qR aj aV)))
 have FP:Rk rT (.slice (some ⟨g,0,none⟩) k.bx.length n6) (s.bs.set m (.slice ao m4 n4)) (k.bx.set m ⟨r1,r2⟩):=⟨hso,by simp[Am],fun i u y hu hy=>by
  rw[List.getElem?_set] at hu hy
  by_cases CX:m=i
  ·subst CX
   simp only[if_true] at hu hy
   rw[if_pos aj] at hu hy
   cases hu;cases hy
   have h8:=HS2.out.below ku
   have h9:=h8.bO nE (lZ (ks:=nH) HR.out.kinds xg.out h8 [3,4] (fun x hx=>oW) aC)
   exact h9.bO qR (HS2.out.apart hbg)
  ·rw[if_neg CX] at hu hy
   have h0:=HR.out.Bx.el i u y hu hy
   exact h0.below ac4⟩
 have MS:KR rT {s with Bx:= .slice (some ⟨g,0,none⟩) k.bx.length n6,bs:=s.bs.set m (.slice ao m4 n4)} {k with bx:=k.bx.set m ⟨r1,r2⟩}:={HR.out.below ac4 with Bx:=FP}
 have hZ:jF (w.heap.size+1) {s with Bx:= .slice (some ⟨g,0,none⟩) k.bx.length n6,bs:=s.bs.set m (.slice ao m4 n4)} {k with bx:=k.bx.set m ⟨r1,r2⟩}:=by
  have h:=HR.out.away (B:=w.heap.size+1) aj
  exact⟨h.1,h.2.1,h.2.2.1,h.2.2.2.1,⟨h.2.2.2.2.1.1,.inr fun c hc=>Vj,h.2.2.2.2.1.2.2⟩,h.2.2.2.2.2⟩
 have sK:=MS.bP (ks:=nH) hZ anq.out rfl aC aC aC aC oP
 have hy:=HY.out
 subst hy
 refine jH Tryz.results94 eU ac2 aF pI.out rfl ⟨_,?_,sK,fun B hB h=>⟨h.1,h.2.1,h.2.2.1,h.2.2.2.1,⟨h.2.2.2.2.1.1,.inr fun c hc=>Vj,h.2.2.2.2.1.2.2⟩,h.2.2.2.2.2⟩,ac4.trans (f_.mono aj)⟩
 rw[gT,gT]
theorem Xp(s:Ks)(k:Kn)(n:Int)(body:ByteArray)(now:Int)(w:World)(hr:KR w s k)(hk:Fit k)(FN:body.size≤9223372036854775807):
  Calls Tryz.prog 94 #[.agg (kC s k),.int .i64 n,.string body,.int .u64 now] w (Pz w s k (kZ k n body now)):=by
 by_cases h:n<0∨(k.ins.length:Int)≤n∨(k.bx.length:Int)≤n
 ·rw[show kZ k n body now=k from by unfold kZ;rw[if_pos h]]
  exact Xo s k n body now w hr hk h
 ·obtain⟨m,rfl⟩:∃m:Nat,n=m:=⟨n.toNat,aj⟩
  exact abp s k m body now w hr hk aj aj FN
end Go.Proofs.YtgmodehldmahiaaGreatDoor
end
