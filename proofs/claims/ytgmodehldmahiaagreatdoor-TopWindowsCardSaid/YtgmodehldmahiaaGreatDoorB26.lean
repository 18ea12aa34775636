/- Part 26 of 53 of the proof of topAlone_and_topApart. Conditions: see each. -/
import Derived.Test.YtgmodehldmahiaaGreatDoorB14
import Derived.Test.YtgmodehldmahiaaGreatDoorB23
import Derived.Test.YtgmodehldmahiaaGreatDoorB25
set_option linter.unusedVariables false
set_option linter.unusedSimpArgs false
set_option maxRecDepth 8192
set_option maxHeartbeats 40000000
namespace Go.Proofs.YtgmodehldmahiaaGreatDoor
open Go Go.RowKit Go.Tm
attribute [local go_sem] fO fM fK d_ dM dZ dY dX dW dV dU dS dR dQ dP dO dN iQ iP iO iN iM iL iK iG iJ iI fU fT fQ fP fI fH fC
theorem Yx:(Tryz.prog.info? 93).map (fun i=>(i.zero,i.size,i.bytes))=some (some (.agg #[.slice none 0 0,.int .i64 0]),2,32):=by kernel_rfl
theorem SX(v:Value)(xs:List Value)(w:World)(hsl:Sl w true 2 v xs)(hbytes:xs.length*32≤140737488355328):
  Calls Tryz.prog 119 #[v] w fun e w'=>∃v',e=.returned v'∧bI w' w.heap.size 93 true 2 v' xs∧Below w.heap.size w w':=by
 have rF:=ah hsl
 obtain⟨hsz,a,cap,rfl,hl,hm,dL⟩:=hsl
 have hlen:xs.length≤maxLen:=aj
 cases a with
 |none=>
  have h0:xs=[]:=Bp
  subst h0
  have hnil:=fun(n c:Nat) (w:World)=>fE Tryz.prog (t:=53) (n:=n) (c:=c) Tryz.underlying53 w
  clear dL hsz hl hm hlen
  go_enter Tryz.func119,Tryz.ntmps119
  exact Bq
 |some a=>
  have hnil:=fun(n c:Nat) (w:World)=>fD Tryz.prog (t:=53) (a:=a) (n:=n) (c:=c) Tryz.underlying53 w
  obtain⟨i0,hi,hz0,hz1,hz2⟩:=info_parts Yx
  have HI:=ah hi
  have HZ:=ah (And.intro hz0 (And.intro hz1 hz2))
  have HS:=ah hsz
  clear hi hz0 hz1 hz2 dL hl hm hsz
  go_enter Tryz.func119,Tryz.ntmps119
  go_wp2_with(first|(refine wpList_append_own _ rfl _ _ 53 rfl w.heap.size 93 i0 (.agg #[.slice none 0 0,.int .i64 0]) 2 32 Tryz.underlying53 HI.out HZ.out.1 HZ.out.2.1 HZ.out.2.2 rfl aC (.slice (some ⟨w.heap.size,0,none⟩) 0 0) 0 [] dw (World.ownsRow_made w #[] 0 (Nat.le_refl _) (Nat.zero_le _) rfl) a xs.length cap (flat xs) dw ?c1 ?c2 ?c3 ?c4 ?c5 ?c6 ?_)|fail)
  case c1=>exact fA HS.out
  case c2=>exact(rF.out.below ((Below.refl _ _).alloc (Nat.le_refl _) _)).news
  case c3=>exact jq HS.out
  case c4=>omega
  case c5=>omega
  case c6=>simp
  exact L9
theorem sW{vs:List Value}{l:List Bx}(h:vs.length=l.length):(vS vs l).length=l.length:=by simp[vS,h]
theorem Ec{vs:List Value}{l:List Bx}{i:Nat}{u:Value}{x:Bx}(h1:vs[i]?=some u)(h2:l[i]?=some x):(vS vs l)[i]?=some (QC u x):=by
 simp[vS,List.getElem?_zipWith,h1,h2]
theorem Ta{vs:List Value}{l:List Bx}(h:vs.length=l.length)(i:Nat)(u:Value)(x:Bx):(vS vs l).set i (QC u x)=vS (vs.set i u) (l.set i x):=by
 apply List.ext_getElem?
 intro j
 simp only[vS,List.getElem?_set,List.getElem?_zipWith,List.length_zipWith]
 by_cases hij:i=j
 ·subst hij
  by_cases hi:i<l.length
  ·simp[h,hi]
  ·simp[h,hi]
 ·simp[hij]
def bx0:Bx:=⟨[],0⟩
def rR(k:Kn)(n:Int):Bx:=k.bx.getD n.toNat bx0
def vY(k:Kn)(n:Int):aW.Ch:=k.ins.getD n.toNat (0,0,0,0,0)
noncomputable def zi(k:Kn)(p:aT.dz)(x:qJ):Kn×Int×Int:=
 if x.2.1<k.ins.length∧x.2.1<k.bx.length then
  if(lT (vY k x.2.1) (rR k x.2.1).ms).2.2=0 then
   if x.2.2.2<(lT (vY k x.2.1) (rR k x.2.1).ms).2.1.2.size then(k,0,4)
   else if(inS (pq p).mem x.2.2.1 (lT (vY k x.2.1) (rR k x.2.1).ms).2.1.2).2=0 then
    ({k with bx:=k.bx.set x.2.1.toNat ⟨(lT (vY k x.2.1) (rR k x.2.1).ms).1,(rR k x.2.1).lost⟩,
             P:=aT.oF k.P (BH p.pid p.par p.st {pq p with mem:=(inS (pq p).mem x.2.2.1 (lT (vY k x.2.1) (rR k x.2.1).ms).2.1.2).1})},
     ((lT (vY k x.2.1) (rR k x.2.1).ms).2.1.2.size:Int)%4294967296,0)
   else(k,0,(inS (pq p).mem x.2.2.1 (lT (vY k x.2.1) (rR k x.2.1).ms).2.1.2).2)
  else(k,0,6)
 else(k,0,7)
theorem Wm{c:aW.Ch}{ms:List Ms}(m:Ms)(h:m∈(lT c ms).1):m∈ms:=by
 unfold lT at h
 split at h
 ·cases h
 ·split at h
  ·exact h
  ·exact List.mem_of_mem_drop h
theorem Wj{c:aW.Ch}{ms:List Ms}{N:Nat}(h:∀m∈ms,m.2.size≤N):(lT c ms).2.1.2.size≤N:=by
 unfold lT
 split
 ·exact Nat.zero_le _
 ·cases ms with
  |nil=>exact Nat.zero_le _
  |cons m r=>exact h m aI
theorem KW.an4{w w':World}{b:Nat}{s:Ks}{k:Kn}(h:KW w b s k)(hg:w.grownBy w' (some b)){v:Value}{vs:List Value}{l:List Bx}(hb:aD w' b (kC {s with Bx:=v,bs:=vs} {k with bx:=l}) kT)(hv:Rk w' v vs l)(ha:Apart b v (vS vs l)):KW w' b {s with Bx:=v,bs:=vs} {k with bx:=l}:=
 ⟨hb,{h.ng hg with Bx:=hv},h.aL,h.LX,ha⟩
theorem aah:zP 172 zi:=by
 intro b s k p x w hw hk hx
 have HW:=ah hw
 obtain⟨r,hr⟩:∃r,r=zi k p x:=⟨_,rfl⟩
 rw[←hr]
 unfold zi at hr
 (rw[show aT.jQ p=.agg (iA p.pid p.par p.st (pq p)) from congrArg Value.agg (wM p)];have hq:=jR p;generalize pq p=q at*;generalize p.pid=pid at*;generalize p.par=par at*;generalize p.st=st at*;have HQ:=ah hq;clear hq)
 have hlt:=hw.lt
 have hpl:=hk.P
 have hbl:=hk.bx
 have YI:=hw.kr.In
 have MN:=hw.kr.Bx.sl
 have Am:=hw.kr.Bx.len
 obtain⟨ai,ci,hvi,vT⟩:=YI.shape
 obtain⟨ab,cb,hvb,bn⟩:=MN.shape
 rw[aW.oG] at hvi vT
 rw[sW Am] at hvb bn
 have ajX:IntKind.u64.wrap (k.ins.length:Int)=k.ins.length:=Rm
 have ar5:IntKind.u64.wrap (k.bx.length:Int)=k.bx.length:=Rm
 have jW:=HQ.out.mem
 unfold maxLen at jW
 have hA:=hx.2.1
 obtain⟨MX,MW⟩:=hA
 obtain⟨x1,xa,xb,xc⟩:=x
 dsimp only at*
 obtain⟨m,rfl⟩:∃m:Nat,xa=m:=⟨xa.toNat,aj⟩
 have arL:IntKind.u64.wrap (m:Int)=m:=Rm
 have HR:=ah hr
 by_cases h1:(m:Int)<k.ins.length
 rotate_left
 ·rw[if_neg aj] at hr
  have e1:decide ((k.ins.length:Int)≤(m:Int))=true:=decide_eq_true aj
  have e1n:decide (k.ins.length≤m)=true:=decide_eq_true aj
  exact ai6
 have e1:decide ((k.ins.length:Int)≤(m:Int))=false:=decide_eq_false aj
 have e1n:decide (k.ins.length≤m)=false:=decide_eq_false aj
 by_cases h2:(m:Int)<k.bx.length
 rotate_left
 ·rw[if_neg aj] at hr
  have e2:decide ((k.bx.length:Int)≤(m:Int))=true:=decide_eq_true aj
  have e2n:decide (k.bx.length≤m)=true:=decide_eq_true aj
  exact ai6
 have e2:decide ((k.bx.length:Int)≤(m:Int))=false:=decide_eq_false aj
 have e2n:decide (k.bx.length≤m)=false:=decide_eq_false aj
 rw[if_pos ⟨h1,h2⟩] at hr
 obtain⟨c,hc⟩:∃c,k.ins[m]?=some c:=⟨_,List.getElem?_eq_getElem aj⟩
 obtain⟨bb,yT⟩:∃bb,k.bx[m]?=some bb:=⟨_,List.getElem?_eq_getElem aj⟩
 obtain⟨ub,hub⟩:∃ub,s.bs[m]?=some ub:=⟨_,List.getElem?_eq_getElem aj⟩
 have hia:vY k m=c:=ahV
 have hba:rR k m=bb:=ahY
 rw[hia,hba,Int.toNat_natCast] at hr
 have Zf:=hw.kr.Bx.el m ub bb hub yT
 have Zo:=hk.XC bb (List.mem_of_getElem? yT)
 obtain⟨u2,hu2,wK⟩:=agH c ub bb.ms bb.lost w Zf
 obtain⟨au,mu,cu,rfl⟩:=hu2.is
 have htm:(lT c bb.ms).2.1.2.size≤9223372036854775807:=Wj Zo.2
 generalize htt:lT c bb.ms=tk at*
 obtain⟨tk1,⟨tm1,tm2⟩,te⟩:=tk
 dsimp only at hr wK hu2 htm
 have L6:=ah wK
 have HIN:=ah (fun W=>ad4 q.mem xb tm2 W hx.2.2.1 jW htm)
 have hins:=SC q.mem xb tm2 hx.2.2.1.1
 generalize inS q.mem xb tm2=im at*
 obtain⟨im1,im2⟩:=im
 dsimp only at HIN hr hins
 rw[hvi] at YI
 rw[hvb] at MN
 obtain⟨bi,oi,rfl,FP,LV⟩:=YI.at (i:=m) (x:=aW.uG c) (aW.Av hc)
 obtain⟨bo,oo,rfl,FN,hco⟩:=MN.at (i:=m) (x:=QC ub bb) (Ec hub yT)
 have HCI:=ah LV
 have HCO:=ah hco
 have hvc:Val true 5 (aW.uG c):=aW.z_ c
 have hvo:Val true 2 (QC ub bb):=MN.val _ (List.mem_of_getElem? (Ec hub yT))
 have hm0:(0:Int)≤(m:Int):=aj
 have HU2:=ah hu2
 clear hw YI MN HR wK LV hco hu2 Zf
 go_enter Tryz.func172,Tryz.ntmps172
 go_wp2_with fail
 (generalize bR:World.alloc _ _=w0;have KP:aD w0 (w.heap.size) (iA pid par st q) 126:=bH;have KX:aD w0 (w.heap.size+1) (#[.int .u32 x1,.int .u32 m,.int .u32 xb,.int .u32 xc]) 124:=bH;have hb0:Below w.heap.size w w0:=bN;have hz0:w0.heap.size=w.heap.size+1+1:=bX;clear bR;have KP:=ah KP;have KX:=ah KX)
 ((try clear hcb bC bn bA bE);have bg:=HW.out.below hb0;obtain⟨hcb,bC,bn,bA,bE⟩:=aD.rules bg.box;have lG:=ah bg;clear bg)
 ((try clear gL iZ hlx iY hmx);have bx0:=KX.out;obtain⟨gL,iZ,hlx,iY,hmx⟩:=aD.rules bx0;have wL:=ah bx0;clear bx0)
 go_region
 go_wp2_with fail
 (have hd2:Below w0.heap.size w0 w0.drew:=(Below.refl _ _).drew;generalize w0.drew=w2 at hd2⊢)
 ((try clear hcb bC bn bA bE);have bg:=lG.out.below hd2;obtain⟨hcb,bC,bn,bA,bE⟩:=aD.rules bg.box;have tC:=ah bg;clear bg)
 have bM:=hb0.trans (hd2.mono hb0.size)
 ((try clear gL iZ hlx iY hmx);have bx0:=wL.out.below hd2 wL.out.lt;obtain⟨gL,iZ,hlx,iY,hmx⟩:=aD.rules bx0;have Um:=ah bx0;clear bx0)
 refine RO (α:=Nat) (β:=Nat) (fun qa qb W=>aD W qa #[.slice au mu cu,.int .i64 bb.lost] 93∧aD W qb #[.int .u64 tm1,.string tm2] 138∧Below w2.heap.size w2 W∧w2.heap.size≤qa∧w2.heap.size≤qb∧qa≠qb) ?G ?_ ?_
 rotate_left
 ·((refine aY (fun W=>Below w2.heap.size w2 W) (fun i=>decide (i<25)&&i !=21&&i !=22) ay ?_);
          have hS:Below w2.heap.size w2 w2.drew:=(Below.refl _ _).drew;
          (refine tk 0 37 hS ?_);
          (refine tk 1 38 hS ?_);
          (refine tk 2 39 hS ?_);
          (refine tk 3 40 hS ?_);
          (refine tk 4 41 hS ?_ (hy:=Or.inl ⟨aF,Bo⟩));
          (refine tk 5 42 hS ?_);
          (refine tk 6 43 hS ?_ (hy:=Or.inl ⟨aF,Bo⟩));
          (refine tk 7 44 hS ?_);
          (refine bL 8 (oi:=⟨some 45,_,_,_,_,_⟩) rfl ay om hS (jh 95 _ rfl (b:=bi) (off:=oi+m*5) (aW.uG c).cells aW.kK hvc aF bG (fun W hs=>HCI.out.below (bM.trans (hs.mono bM.size)) FP)) ?_);
          (try simp only[pt]);
          (refine tk 9 46 hS ?_);
          (refine tk 10 47 hS ?_);
          (refine tk 11 48 hS ?_);
          (refine tk 12 49 hS ?_);
          (refine tk 13 50 hS ?_ (hy:=Or.inl ⟨aF,Bo⟩));
          (refine tk 14 51 hS ?_);
          (refine tk 15 52 hS ?_ (hy:=Or.inl ⟨aF,Bo⟩));
          (refine tk 16 53 hS ?_);
          (refine bL 17 (oi:=⟨some 54,_,_,_,_,_⟩) rfl ay om hS (jh 93 _ rfl (b:=bo) (off:=oo+m*2) (QC ub bb).cells Nl hvo aF bG (fun W hs=>HCO.out.below (bM.trans (hs.mono bM.size)) FN)) ?_);
          (try simp only[pt]);
          (refine P9 18 23 24 (oi:=⟨some 55,_,_,_,_,_⟩) (oj:=⟨some 8,_,_,_,_,_⟩) (ol:=⟨some 9,_,_,_,_,_⟩) rfl rfl rfl ay rfl rfl rfl (fun K hK=>?_) (fun K hK=>?_) (fun K hK=>?_));
          (focus((go_simp;(with_reducible refine(L6.out _ (bM.trans (hS.mono bM.size))).mono ?_);rintro en w4 ⟨rfl,hb4⟩;have hS:=hS.trans (Below.mono hb4 hS.size);have xU:=hb4.size;(try(have zH:=aD.below zH hb4 zH.lt));(try(have w_:=aD.below w_ hb4 w_.lt));(try go_wp2_with fail));(refine hK.out _ _ (fun _=>b_) ?_;clear hK K);(try simp only[pt]);(refine tk 19 36 hS ?_);(try simp only[pt]);(refine bV 21 (oi:=⟨some 57,_,_,_,_,_⟩) (v:=?_) rfl ay om (Or.inl ⟨aF,?_⟩) ?_;rotate_left;focus(intro W hW;go_simp;(all_goals with_reducible rfl)));(try simp only[pt]);(refine bV 22 (oi:=⟨some 58,_,_,_,_,_⟩) (v:=?_) rfl ay om (Or.inl ⟨aF,?_⟩) ?_;rotate_left;focus(intro W hW;go_simp;(all_goals with_reducible rfl)));(try simp only[pt]);(refine tk 20 56 hS ?_);(try simp only[pt]);(refine eX 23 24 (oi:=⟨some 8,_,_,_,_,_⟩) (oj:=⟨some 9,_,_,_,_,_⟩) rfl rfl ay rfl rfl (fun K hK=>?_) (fun K hK=>?_));(focus(((refine jD 93 rfl (z:= .agg #[.slice none 0 0,.int .i64 0]) ay #[.slice none 0 0,.int .i64 0] rfl ?_;intro qa wa zH Uy GQ Xz;have hqq:=GQ;have GQ:=Nat.le_trans (Below.size hS) GQ;have hza:=Uy.size;(try(have w_:=aD.below w_ Uy w_.lt))));(refine hidS hK (hS.trans (Uy.mono hS.size)) (fun hS=>?_);clear hK K);exact ajl));(focus(((refine jD 138 rfl (z:= .agg #[.int .u64 0,.string ⟨#[]⟩]) ay #[.int .u64 0,.string ⟨#[]⟩] rfl ?_;intro qb wb w_ Ux Ij abL;have aj':=Ij;have Ij:=Nat.le_trans (Below.size hS) Ij;have hzb:=Ux.size;(try(have zH:=aD.below zH Ux zH.lt))));(refine hidS hK (hS.trans (Ux.mono hS.size)) (fun hS=>?_);clear hK K);exact ajm))));
          (focus(((refine jD 93 rfl (z:= .agg #[.slice none 0 0,.int .i64 0]) ay #[.slice none 0 0,.int .i64 0] rfl ?_;intro qa wa zH Uy GQ Xz;have hqq:=GQ;have GQ:=Nat.le_trans (Below.size hS) GQ;have hza:=Uy.size;(try(have w_:=aD.below w_ Uy w_.lt))));(refine hidS hK (hS.trans (Uy.mono hS.size)) (fun hS=>?_);clear hK K);(try simp only[pt]);(refine eX 18 24 (oi:=⟨some 55,_,_,_,_,_⟩) (oj:=⟨some 9,_,_,_,_,_⟩) rfl rfl ay rfl rfl (fun K hK=>?_) (fun K hK=>?_));(focus((go_simp;(with_reducible refine(L6.out _ (bM.trans (hS.mono bM.size))).mono ?_);rintro en w4 ⟨rfl,hb4⟩;have hS:=hS.trans (Below.mono hb4 hS.size);have xU:=hb4.size;(try(have zH:=aD.below zH hb4 zH.lt));(try(have w_:=aD.below w_ hb4 w_.lt));(try go_wp2_with fail));(refine hK.out _ _ (fun _=>b_) ?_;clear hK K);(try simp only[pt]);(refine tk 19 36 hS ?_);(try simp only[pt]);(refine bV 21 (oi:=⟨some 57,_,_,_,_,_⟩) (v:=?_) rfl ay om (Or.inl ⟨aF,?_⟩) ?_;rotate_left;focus(intro W hW;go_simp;(all_goals with_reducible rfl)));(try simp only[pt]);(refine bV 22 (oi:=⟨some 58,_,_,_,_,_⟩) (v:=?_) rfl ay om (Or.inl ⟨aF,?_⟩) ?_;rotate_left;focus(intro W hW;go_simp;(all_goals with_reducible rfl)));(try simp only[pt]);(refine tk 20 56 hS ?_);exact ajl));(focus(((refine jD 138 rfl (z:= .agg #[.int .u64 0,.string ⟨#[]⟩]) ay #[.int .u64 0,.string ⟨#[]⟩] rfl ?_;intro qb wb w_ Ux Ij abL;have aj':=Ij;have Ij:=Nat.le_trans (Below.size hS) Ij;have hzb:=Ux.size;(try(have zH:=aD.below zH Ux zH.lt))));(refine hidS hK (hS.trans (Ux.mono hS.size)) (fun hS=>?_);clear hK K);exact amo))));
          (focus(((refine jD 138 rfl (z:= .agg #[.int .u64 0,.string ⟨#[]⟩]) ay #[.int .u64 0,.string ⟨#[]⟩] rfl ?_;intro qb wb w_ Ux Ij abL;have aj':=Ij;have Ij:=Nat.le_trans (Below.size hS) Ij;have hzb:=Ux.size;(try(have zH:=aD.below zH Ux zH.lt))));(refine hidS hK (hS.trans (Ux.mono hS.size)) (fun hS=>?_);clear hK K);(try simp only[pt]);(refine eX 18 23 (oi:=⟨some 55,_,_,_,_,_⟩) (oj:=⟨some 8,_,_,_,_,_⟩) rfl rfl ay rfl rfl (fun K hK=>?_) (fun K hK=>?_));(focus((go_simp;(with_reducible refine(L6.out _ (bM.trans (hS.mono bM.size))).mono ?_);rintro en w4 ⟨rfl,hb4⟩;have hS:=hS.trans (Below.mono hb4 hS.size);have xU:=hb4.size;(try(have zH:=aD.below zH hb4 zH.lt));(try(have w_:=aD.below w_ hb4 w_.lt));(try go_wp2_with fail));(refine hK.out _ _ (fun _=>b_) ?_;clear hK K);(try simp only[pt]);(refine tk 19 36 hS ?_);(try simp only[pt]);(refine bV 21 (oi:=⟨some 57,_,_,_,_,_⟩) (v:=?_) rfl ay om (Or.inl ⟨aF,?_⟩) ?_;rotate_left;focus(intro W hW;go_simp;(all_goals with_reducible rfl)));(try simp only[pt]);(refine bV 22 (oi:=⟨some 58,_,_,_,_,_⟩) (v:=?_) rfl ay om (Or.inl ⟨aF,?_⟩) ?_;rotate_left;focus(intro W hW;go_simp;(all_goals with_reducible rfl)));(try simp only[pt]);(refine tk 20 56 hS ?_);exact ajm));(focus(((refine jD 93 rfl (z:= .agg #[.slice none 0 0,.int .i64 0]) ay #[.slice none 0 0,.int .i64 0] rfl ?_;intro qa wa zH Uy GQ Xz;have hqq:=GQ;have GQ:=Nat.le_trans (Below.size hS) GQ;have hza:=Uy.size;(try(have w_:=aD.below w_ Uy w_.lt))));(refine hidS hK (hS.trans (Uy.mono hS.size)) (fun hS=>?_);clear hK K);exact amo)))))
 rintro qa qb w5 ⟨zH,w_,xX,GQ,Ij,hab⟩
 have iE:=bM.trans (xX.mono bM.size)
 have OE:qb≠qa:=fun h=>hab h.symm
 ((try clear hcb bC bn bA bE);have bg:=tC.out.below xX;obtain⟨hcb,bC,bn,bA,bE⟩:=aD.rules bg.box;have sN:=ah bg;clear bg)
 ((try clear gL iZ hlx iY hmx);have bx0:=Um.out.below xX Um.out.lt;obtain⟨gL,iZ,hlx,iY,hmx⟩:=aD.rules bx0;have Ul:=ah bx0;clear bx0)
 have UG:=ah (KP.out.below hd2 KP.out.lt)
 have Ez:=ah (UG.out.below xX UG.out.lt)
 ((try clear fF h_ gF gQ g_);have bx0:=Ez.out;obtain⟨fF,h_,gF,gQ,g_⟩:=aD.rules bx0;have M4:=ah bx0;clear bx0)
 have KA5:=ah zH
 have zI:=ah w_
 ((try clear BK hfy hly hny hmy);have bx0:=KA5.out;obtain⟨BK,hfy,hly,hny,hmy⟩:=aD.rules bx0;have KA6:=ah bx0;clear bx0)
 ((try clear hcz Hr Xy hnz hmz);have bx0:=zI.out;obtain⟨hcz,Hr,Xy,hnz,hmz⟩:=aD.rules bx0;have vL:=ah bx0;clear bx0)
 clear zH w_ UG KP KX wL Um lG tC
 by_cases h3:te=0
 rotate_left
 ·rw[if_neg h3] at hr
  have d3:(te !=0)=true:=rV
  subst hr
  go_wp2_with fail
  exact bodyPost_ret (v:= .tuple #[.int .u32 0,.int .i64 6]) Jl rfl ⟨rfl,⟨s,HW.out.below iE,fun _ _ _ h=>h⟩,aA iE _⟩
 rw[if_pos h3] at hr
 subst h3
 have hwt:IntKind.u64.wrap (tm2.size:Int)=tm2.size:=Rm
 have hwx:IntKind.u64.wrap xc=xc:=by have g:0≤xc∧xc≤4294967295:=hx.2.2.2;unfold IntKind.wrap;simp[IntKind.signed,IntKind.bits];omega
 by_cases h4:xc<tm2.size
 ·rw[if_pos h4] at hr
  have d4:decide (xc<(tm2.size:Int))=true:=decide_eq_true h4
  subst hr
  go_wp2_with fail
  exact bodyPost_ret (v:= .tuple #[.int .u32 0,.int .i64 4]) Jl rfl ⟨rfl,⟨s,HW.out.below iE,fun _ _ _ h=>h⟩,aA iE _⟩
 rw[if_neg h4] at hr
 have d4:decide (xc<(tm2.size:Int))=false:=decide_eq_false h4
 go_wp2_with fail
 with_reducible refine(HIN.out _).mono ?_
 rintro en w6 ⟨rfl,kM⟩
 have mD:=iE.trans (kM.mono iE.size)
 by_cases h5:im2=0
 rotate_left
 ·rw[if_neg h5] at hr
  have d5:(im2 !=0)=true:=by simp[h5]
  subst hr
  go_wp2_with fail
  exact bodyPost_ret (v:= .tuple #[.int .u32 0,.int .i64 im2]) Jl rfl ⟨rfl,⟨s,HW.out.below mD,fun _ _ _ h=>h⟩,aA mD _⟩
 rw[if_pos h5] at hr
 subst h5
 ((try clear hcb bC bn bA bE);have bg:=sN.out.below kM;obtain⟨hcb,bC,bn,bA,bE⟩:=aD.rules bg.box;have LZ:=ah bg;clear bg)
 ((try clear fF h_ gF gQ g_);have bx0:=M4.out.below kM M4.out.lt;obtain⟨fF,h_,gF,gQ,g_⟩:=aD.rules bx0;have KP7:=ah bx0;clear bx0)
 have KA7:=ah (KA6.out.below kM KA6.out.lt)
 have M5:=ah (vL.out.below kM vL.out.lt)
 have KX7:=ah (Ul.out.below kM Ul.out.lt)
 have hp5:=M4.out.lt
 have hx5:=Ul.out.lt
 have hz6:=kM.size
 have arU:=KA6.out.lt
 have arT:=vL.out.lt
 have arZ:=xX.size
 have ar2:=hd2.size
 have L8:Hid (Pf.Ok {q with mem:=im1}):=ah {HQ.out with mem:=by show im1.size≤_;rw[hins];exact HQ.out.mem}
 obtain⟨q2,mh⟩:∃q2:Pf,q2={q with mem:=im1}:=⟨_,rfl⟩
 rw[←mh] at L8 hr
 have HE2:=ah mh
 clear BK hfy hly hny hmy hcz Hr Xy hnz hmz gL iZ hlx iY hmx mh
 go_wp2_with fail
 generalize bR:World.setCell _ _ _=w7
 have LW:aD w7 w.heap.size (iA pid par st q2) 126:=ahU
 have mq:Below w.heap.size w w7:=bN
 have LC:w7.heap.size=w6.heap.size:=bX
 have KA8:=ah (show aD w7 qa #[.slice au mu cu,.int .i64 bb.lost] 93 from by rw[←bR];exact KA7.out.other _ _ aV)
 have xg:=ah (show aD w7 qb #[.int .u64 tm1,.string tm2] 138 from by rw[←bR];exact M5.out.other _ _ aV)
 have KX8:=ah (show aD w7 (w.heap.size+1) #[.int .u32 x1,.int .u32 m,.int .u32 xb,.int .u32 xc] 124 from by rw[←bR];exact KX7.out.other _ _ aI)
 have KP8:=ah LW
 ((try clear hcb bC bn bA bE);have bg:=HW.out.below mq;obtain⟨hcb,bC,bn,bA,bE⟩:=aD.rules bg.box;have CU:=ah bg;clear bg)
 have Ot:=CU.out.kr.Bx.sl
 rw[hvb] at Ot
 have ab0:=ah Ot
 have HU7:=ah (HU2.out.below mq)
 clear bR LW Ot fF h_ gF gQ g_ KP7 M4 Ez
 with_reducible refine(SX _ (vS s.bs k.bx) _ ab0.out EN).mono ?_
 rintro en w8 ⟨v8,rfl,AY,ku⟩
 obtain⟨g,n6,rfl,UQ,abN,hbg,N_,hfg,hcg⟩:=AY.form EN
 rw[sW Am] at AY UQ
 ((try clear hcb bC bn bA bE);have bg:=CU.out.below ku;obtain⟨hcb,bC,bn,bA,bE⟩:=aD.rules bg.box;have UF:=ah bg;clear bg)
 have KA9:=ah (KA8.out.below ku KA8.out.lt)
 have Io:=ah (xg.out.below ku xg.out.lt)
 have KP9:=ah (KP8.out.below ku KP8.out.lt)
 have KX9:=ah (KX8.out.below ku KX8.out.lt)
 have akj:=CU.out.lt
 have ha7:=KA8.out.lt
 have asA:=xg.out.lt
 have hp7:=KP8.out.lt
 have hx7:=KX8.out.lt
 have Ba:=ah AY
 clear hfg hcg AY
 go_wp2_with fail
 generalize bR:World.setCell _ _ _=w9
 have nE:w8.grownBy w9 (some b):=qg
 have bb9:aD w9 b (kC {s with Bx:= .slice (some ⟨g,0,none⟩) k.bx.length n6} k) kT:=by rw[←bR];exact(UF.out.box.set 11 _).cast (VU _ _ _)
 have anB:=ah (KA9.out.grown nE aV)
 have EG:=ah (Io.out.grown nE aV)
 have OJ:=ah (KP9.out.grown nE aV)
 have anr:=ah (KX9.out.grown nE aV)
 have GX:=ah (Ba.out.Dx nE akj)
 have Y0:=ah bb9
 clear bR hcb bC bn bA bE bb9
 obtain⟨hcb,bC,bn,bA,bE⟩:=aD.rules Y0.out
 obtain⟨BK,hfy,hly,hny,hmy⟩:=aD.rules anB.out
 obtain⟨hcz,Hr,Xy,hnz,hmz⟩:=aD.rules EG.out
 obtain⟨gL,iZ,hlx,iY,hmx⟩:=aD.rules anr.out
 ((refine aY (fun W=>Below w9.heap.size w9 W) (fun i=>decide (i<9)) ay ?_);
          have hS:Below w9.heap.size w9 w9.drew:=(Below.refl _ _).drew;
          (refine tk 0 96 hS ?_);
          (refine tk 1 97 hS ?_);
          (refine tk 2 98 hS ?_);
          (refine tk 3 99 hS ?_);
          (refine tk 4 100 hS ?_ (hy:=Or.inl ⟨aF,acu⟩));
          (refine tk 5 101 hS ?_);
          (refine tk 6 102 hS ?_ (hy:=Or.inl ⟨aF,acu⟩));
          (refine tk 7 103 hS ?_ (hy:=Or.inl ⟨aF,acu⟩));
          (refine tk 8 104 hS ?_);
          (refine aZ 9 ay ?_ rfl);
          simp only[List.toList_toArray,List.drop_succ_cons,List.drop_zero])
 have wO:=ah (GX.out.kept hS)
 have hvn:Val true 2 (.agg #[.slice au mu cu,.int .i64 bb.lost]):=⟨_,rfl,rfl,FX⟩
 have QL:=ah (Y0.out.below hS Y0.out.lt)
 have KPC:=ah (OJ.out.below hS OJ.out.lt)
 have KMC:=ah (EG.out.below hS EG.out.lt)
 have Ey:m<(vS s.bs k.bx).length:=EN
 go_wp2_with(first|((with_reducible refine bS 93 ?_);(refine eB (base:=w7.heap.size) rfl _ _ rfl Nl g k.bx.length n6 wO.out m Ey ?_ (.agg #[.slice au mu cu,.int .i64 bb.lost]) ?_ hvn ?_;(exact aM);(exact aM);(intro rT Db qR;have IU:=ah Db;have KBD:=ah (QL.out.grown qR aV);have KPD:=ah (KPC.out.grown qR aV);have KMD:=ah (KMC.out.grown qR aV);clear Db)))|fail)
 have hG7:w7.grownBy rT (some b):=nu (aB (aB (aA ku _) nE) (aA hS _)) qR hbg
 have hso:=IU.out.sl
 rw[show(Value.agg #[.slice au mu cu,.int .i64 bb.lost])=QC (.slice au mu cu) ⟨tk1,bb.lost⟩ from rfl,Ta Am] at hso
 have FP:Rk rT (.slice (some ⟨g,0,none⟩) k.bx.length n6) (s.bs.set m (.slice au mu cu)) (k.bx.set m ⟨tk1,bb.lost⟩):=⟨hso,by simp[Am],fun i u y hu hy=>by
  rw[List.getElem?_set] at hu hy
  by_cases CX:m=i
  ·subst CX
   simp only[if_true] at hu hy
   rw[if_pos aj] at hu hy
   cases hu;cases hy
   exact HU7.out.bO hG7 (Fz CU.out.kr CU.out.box HU7.out)
  ·rw[if_neg CX] at hu hy
   have:=CU.out.kr.Bx.el i u y hu hy
   exact this.bO hG7 (Fz CU.out.kr CU.out.box this)⟩
 have GY:=CU.out.an4 hG7 (KBD.out.cast wQ) FP (.inr fun c hc=>by have:=IU.out.iy c hc;omega)
 have Zt:=aB (aA mq (some b)) hG7
 clear hcb bC bn bA bE BK hfy hly hny hmy hcz Hr Xy hnz hmz gL iZ hlx iY hmx hso FP
 obtain⟨hcb,bC,bn,bA,bE⟩:=aD.rules GY.box
 ((try clear fF h_ gF gQ g_);have bx0:=KPD.out;obtain⟨fF,h_,gF,gQ,g_⟩:=aD.rules bx0;have KPE:=ah bx0;clear bx0)
 ((try clear hcz Hr Xy hnz hmz);have bx0:=KMD.out;obtain⟨hcz,Hr,Xy,hnz,hmz⟩:=aD.rules bx0;have KME:=ah bx0;clear bx0)
 have Mh:=ah GY
 clear GY QL KPC Y0 OJ KP9 EG Io xg M5 anB KA9 KA8 KA7 anr KX9 KX8 KX7 KMC KMD
 ((refine aY (fun W=>Below rT.heap.size rT W) (fun i=>decide (i<11)) ay ?_);
          have qG:Below rT.heap.size rT rT.drew:=(Below.refl _ _).drew;
          (refine tk 0 105 qG ?_);
          (refine tk 1 106 qG ?_);
          (refine tk 2 107 qG ?_);
          (refine tk 3 108 qG ?_);
          (refine tk 4 109 qG ?_);
          (refine tk 5 110 qG ?_ (hy:=Or.inl ⟨aF,qB⟩));
          (refine bL 6 (oi:=⟨some 111,_,_,_,_,_⟩) rfl ay om qG (dh 126 _ rfl (iA pid par st q2) aT.bf (qY _ _ _ _) aF bG (fun W hs=>KPE.out.below hs KPE.out.lt)) ?_);
          (try simp only[pt]);
          (refine aJ 7 (oi:=⟨some 112,_,_,_,_,_⟩) rfl ay rfl (fun K hK=>?_));
          (go_simp;(with_reducible refine(F8 _ k.P pid par st _ L8.out _ (Mh.out.kr.P.below qG) hpl).mono ?_);rintro en N7 ⟨v12,rfl,UN,f_⟩;have qG:=qG.trans (Below.mono f_ qG.size);obtain⟨a12,m12,n12,rfl⟩:=UN.is;(try go_wp2_with fail));
          (refine hK.out _ _ (fun _=>b_) ?_;clear hK K);
          (try simp only[pt]);
          (refine tk 8 113 qG ?_);
          (refine tk 9 114 qG ?_);
          (refine tk 10 115 qG ?_);
          (refine aZ 11 ay ?_ rfl);
          simp only[List.toList_toArray,List.drop_succ_cons,List.drop_zero])
 ((try clear hcb bC bn bA bE);have bg:=Mh.out.below qG;obtain⟨hcb,bC,bn,bA,bE⟩:=aD.rules bg.box;have akY:=ah bg;clear bg)
 ((try clear hcz Hr Xy hnz hmz);have bx0:=KME.out.below qG KME.out.lt;obtain⟨hcz,Hr,Xy,hnz,hmz⟩:=aD.rules bx0;have KMF:=ah bx0;clear bx0)
 have hbz:¬qb=b:=aj
 have H12:=ah UN
 have akR:=aB Zt (aA qG _)
 clear fF h_ gF gQ g_ UN
 go_wp2_with fail
 subst hr
 exact bodyPost_ret (v:= .tuple #[.int .u32 ((tm2.size:Int)%4294967296),.int .i64 0]) Jl rfl ⟨rfl,⟨_,akY.out.C8 H12.out,fun B hB _ h=>⟨h.1,h.2.1,h.2.2.1,h.2.2.2.1,⟨h.2.2.2.2.1.1,.inr fun c hc=>ahO,h.2.2.2.2.1.2.2⟩,h.2.2.2.2.2⟩⟩,aB akR (aO _ _ _ _)⟩
end Go.Proofs.YtgmodehldmahiaaGreatDoor
