/- Part 26 of 50 of the proof of topWindows_holds. Conditions: see each. -/
import Derived.Test.YtgmodehldmahiaaGreatDoorW14
import Derived.Test.YtgmodehldmahiaaGreatDoorW23
import Derived.Test.YtgmodehldmahiaaGreatDoorW25
set_option linter.unusedVariables false
set_option linter.unusedSimpArgs false
set_option maxRecDepth 8192
set_option maxHeartbeats 40000000
namespace Go.Proofs.YtgmodehldmahiaaGreatDoor
open Go Go.RowKit Go.Tm
attribute [local go_sem] fB fA fu dR dA dQ dP dO dN dM dL dK dJ dI dH dG dF iq ig h_ g_ gZ gY gX gN gW gV fF fE fD fC eY eX eU
theorem Tx:(Tryz.prog.info? 93).map (fun i=>(i.zero,i.size,i.bytes))=some (some (.agg #[.slice none 0 0,.int .i64 0]),2,32):=by kernel_rfl
theorem Nn(v:Value)(xs:List Value)(w:World)(hsl:Sl w true 2 v xs)(hbytes:xs.length*32≤140737488355328):
  Calls Tryz.prog 119 #[v] w fun e w'=>∃v',e=.returned v'∧bB w' w.heap.size 93 true 2 v' xs∧Below w.heap.size w w':=by
 have hsl0:=Lib.hid hsl
 obtain⟨hsz,a,cap,rfl,hl,hm,hform⟩:=hsl
 have hlen:xs.length≤maxLen:=ah
 cases a with
 |none=>
  have h0:xs=[]:=yu
  subst h0
  have hnil:=fun(n c:Nat) (w:World)=>eD Tryz.prog (t:=53) (n:=n) (c:=c) Tryz.underlying53 w
  clear hform hsz hl hm hlen
  go_enter Tryz.func119,Tryz.ntmps119
  exact yw
 |some a=>
  have hnil:=fun(n c:Nat) (w:World)=>eB Tryz.prog (t:=53) (a:=a) (n:=n) (c:=c) Tryz.underlying53 w
  obtain⟨i0,hi,hz0,hz1,hz2⟩:=info_parts Tx
  have HI:=Lib.hid hi
  have HZ:=Lib.hid (And.intro hz0 (And.intro hz1 hz2))
  have HS:=Lib.hid hsz
  clear hi hz0 hz1 hz2 hform hl hm hsz
  go_enter Tryz.func119,Tryz.ntmps119
  go_wp2_with(first|(refine wpList_append_own _ rfl _ _ 53 rfl w.heap.size 93 i0 (.agg #[.slice none 0 0,.int .i64 0]) 2 32 Tryz.underlying53 HI.out HZ.out.1 HZ.out.2.1 HZ.out.2.2 rfl aB (.slice (some ⟨w.heap.size,0,none⟩) 0 0) 0 [] bT (World.ownsRow_made w #[] 0 (Nat.le_refl _) (Nat.zero_le _) rfl) a xs.length cap (flat xs) bT ?c1 ?c2 ?c3 ?c4 ?c5 ?c6 ?_)|fail)
  case c1=>exact dX HS.out
  case c2=>exact(hsl0.out.below ((Below.refl _ _).alloc (Nat.le_refl _) _)).news
  case c3=>exact iD HS.out
  case c4=>omega
  case c5=>omega
  case c6=>simp
  exact yC
theorem uj{vs:List Value}{l:List Bx}(h:vs.length=l.length):(tZ vs l).length=l.length:=by simp[tZ,h]
theorem A9{vs:List Value}{l:List Bx}{i:Nat}{u:Value}{x:Bx}(h1:vs[i]?=some u)(h2:l[i]?=some x):(tZ vs l)[i]?=some (WQ u x):=by
 simp[tZ,List.getElem?_zipWith,h1,h2]
theorem Nr{vs:List Value}{l:List Bx}(h:vs.length=l.length)(i:Nat)(u:Value)(x:Bx):(tZ vs l).set i (WQ u x)=tZ (vs.set i u) (l.set i x):=by
 apply List.ext_getElem?
 intro j
 simp only[tZ,List.getElem?_set,List.getElem?_zipWith,List.length_zipWith]
 by_cases hij:i=j
 ·subst hij
  by_cases hi:i<l.length
  ·simp[h,hi]
  ·simp[h,hi]
 ·simp[hij]
def bx0:Bx:=⟨[],0⟩
def oV(k:Kn)(n:Int):Bx:=k.bx.getD n.toNat bx0
def sO(k:Kn)(n:Int):bf.Ch:=k.ins.getD n.toNat (0,0,0,0,0)
noncomputable def sK(k:Kn)(p:Tab.bV)(x:nW):Kn×Int×Int:=
 if x.2.1<k.ins.length∧x.2.1<k.bx.length then
  if(j6 (sO k x.2.1) (oV k x.2.1).ms).2.2=0 then
   if x.2.2.2<(j6 (sO k x.2.1) (oV k x.2.1).ms).2.1.2.size then(k,0,4)
   else if(WX (pq p).mem x.2.2.1 (j6 (sO k x.2.1) (oV k x.2.1).ms).2.1.2).2=0 then
    ({k with bx:=k.bx.set x.2.1.toNat ⟨(j6 (sO k x.2.1) (oV k x.2.1).ms).1,(oV k x.2.1).lost⟩,
             P:=Tab.lW k.P (yK p.pid p.par p.st {pq p with mem:=(WX (pq p).mem x.2.2.1 (j6 (sO k x.2.1) (oV k x.2.1).ms).2.1.2).1})},
     ((j6 (sO k x.2.1) (oV k x.2.1).ms).2.1.2.size:Int)%4294967296,0)
   else(k,0,(WX (pq p).mem x.2.2.1 (j6 (sO k x.2.1) (oV k x.2.1).ms).2.1.2).2)
  else(k,0,6)
 else(k,0,7)
theorem QO{c:bf.Ch}{ms:List Ms}(m:Ms)(h:m∈(j6 c ms).1):m∈ms:=by
 unfold j6 at h
 split at h
 ·cases h
 ·split at h
  ·exact h
  ·exact List.mem_of_mem_drop h
theorem QN{c:bf.Ch}{ms:List Ms}{N:Nat}(h:∀m∈ms,m.2.size≤N):(j6 c ms).2.1.2.size≤N:=by
 unfold j6
 split
 ·exact Nat.zero_le _
 ·cases ms with
  |nil=>exact Nat.zero_le _
  |cons m r=>exact h m aI
theorem KW.aiU{w w':World}{b:Nat}{s:Ks}{k:Kn}(h:KW w b s k)(hg:w.grownBy w' (some b)){v:Value}{vs:List Value}{l:List Bx}(hb:aC w' b (kC {s with Bx:=v,bs:=vs} {k with bx:=l}) kT)(hv:Md w' v vs l)(ha:Apart b v (tZ vs l)):KW w' b {s with Bx:=v,bs:=vs} {k with bx:=l}:=
 ⟨hb,{h.kS hg with Bx:=hv},h.aL,h.Hg,ha⟩
theorem Vg:wG 172 sK:=by
 intro b s k p x w hw hk hx
 have HW:=Lib.hid hw
 obtain⟨r,hr⟩:∃r,r=sK k p x:=⟨_,rfl⟩
 rw[←hr]
 unfold sK at hr
 ((rw[show Tab.je p=.agg (gu p.pid p.par p.st (pq p)) from congrArg Value.agg (sW p)]);(have hq:=iY p);(generalize pq p=q at*);(generalize p.pid=pid at*);(generalize p.par=par at*);(generalize p.st=st at*);(have HQ:=Lib.hid hq);(clear hq))
 have hlt:=hw.lt
 have hpl:=hk.P
 have hbl:=hk.bx
 have hsi:=hw.kr.In
 have hsb:=hw.kr.Bx.sl
 have hbn:=hw.kr.Bx.len
 obtain⟨ai,ci,hvi,Eb⟩:=hsi.shape
 obtain⟨ab,cb,hvb,hlb⟩:=hsb.shape
 rw[bf.qN] at hvi Eb
 rw[uj hbn] at hvb hlb
 have abr:IntKind.u64.wrap (k.ins.length:Int)=k.ins.length:=Me
 have hwr2:IntKind.u64.wrap (k.bx.length:Int)=k.bx.length:=Me
 have hmem:=HQ.out.mem
 unfold maxLen at hmem
 have hA:=hx.2.1
 obtain⟨hA1,hA2⟩:=hA
 obtain⟨x1,xa,xb,xc⟩:=x
 dsimp only at*
 obtain⟨m,rfl⟩:∃m:Nat,xa=m:=⟨xa.toNat,ah⟩
 have akP:IntKind.u64.wrap (m:Int)=m:=Me
 have HR:=Lib.hid hr
 by_cases h1:(m:Int)<k.ins.length
 rotate_left
 ·rw[if_neg ah] at hr
  have e1:decide ((k.ins.length:Int)≤(m:Int))=true:=decide_eq_true ah
  have e1n:decide (k.ins.length≤m)=true:=decide_eq_true ah
  exact aeJ
 have e1:decide ((k.ins.length:Int)≤(m:Int))=false:=decide_eq_false ah
 have e1n:decide (k.ins.length≤m)=false:=decide_eq_false ah
 by_cases h2:(m:Int)<k.bx.length
 rotate_left
 ·rw[if_neg ah] at hr
  have e2:decide ((k.bx.length:Int)≤(m:Int))=true:=decide_eq_true ah
  have e2n:decide (k.bx.length≤m)=true:=decide_eq_true ah
  exact aeJ
 have e2:decide ((k.bx.length:Int)≤(m:Int))=false:=decide_eq_false ah
 have e2n:decide (k.bx.length≤m)=false:=decide_eq_false ah
 rw[if_pos ⟨h1,h2⟩] at hr
 obtain⟨c,hc⟩:∃c,k.ins[m]?=some c:=⟨_,List.getElem?_eq_getElem ah⟩
 obtain⟨bb,hbb⟩:∃bb,k.bx[m]?=some bb:=⟨_,List.getElem?_eq_getElem ah⟩
 obtain⟨ub,hub⟩:∃ub,s.bs[m]?=some ub:=⟨_,List.getElem?_eq_getElem ah⟩
 have hia:sO k m=c:=adu
 have hba:oV k m=bb:=adx
 rw[hia,hba,Int.toNat_natCast] at hr
 have Uc:=hw.kr.Bx.el m ub bb hub hbb
 have afX:=hk.TN bb (List.mem_of_getElem? hbb)
 obtain⟨u2,hu2,htk⟩:=ab0 c ub bb.ms bb.lost w Uc
 obtain⟨au,mu,cu,rfl⟩:=hu2.is
 have htm:(j6 c bb.ms).2.1.2.size≤9223372036854775807:=QN afX.2
 generalize htt:j6 c bb.ms=tk at*
 obtain⟨tk1,⟨tm1,WW⟩,te⟩:=tk
 dsimp only at hr htk hu2 htm
 have G8:=Lib.hid htk
 have HIN:=Lib.hid (fun W=>Zo q.mem xb WW W hx.2.2.1 hmem htm)
 have hins:=M_ q.mem xb WW hx.2.2.1.1
 generalize WX q.mem xb WW=im at*
 obtain⟨im1,im2⟩:=im
 dsimp only at HIN hr hins
 rw[hvi] at hsi
 rw[hvb] at hsb
 obtain⟨bi,oi,rfl,hbi,hci⟩:=hsi.at (i:=m) (x:=bf.uI c) (bf.El hc)
 obtain⟨bo,oo,rfl,CU,hco⟩:=hsb.at (i:=m) (x:=WQ ub bb) (A9 hub hbb)
 have HCI:=Lib.hid hci
 have HCO:=Lib.hid hco
 have hvc:Val true 5 (bf.uI c):=bf.Qv c
 have hvo:Val true 2 (WQ ub bb):=hsb.val _ (List.mem_of_getElem? (A9 hub hbb))
 have hm0:(0:Int)≤(m:Int):=ah
 have HU2:=Lib.hid hu2
 clear hw hsi hsb HR htk hci hco hu2 Uc
 go_enter Tryz.func172,Tryz.ntmps172
 go_wp2_with fail
 ((generalize bN:World.alloc _ _=w0);(have KP:aC w0 (w.heap.size) (gu pid par st q) 126:=bA);(have KX:aC w0 (w.heap.size+1) (#[.int .u32 x1,.int .u32 m,.int .u32 xb,.int .u32 xc]) 124:=bA);(have hb0:Below w.heap.size w w0:=bM);(have hz0:w0.heap.size=w.heap.size+1+1:=bX);(clear bN);(have KP:=Lib.hid KP);(have KX:=Lib.hid KX))
 ((try clear hcb bn hlb hnb hmb);(have aW:=HW.out.below hb0);(obtain⟨hcb,bn,hlb,hnb,hmb⟩:=aC.rules aW.box);(have jV:=Lib.hid aW);(clear aW))
 ((try clear hcx hfx hlx hnx hmx);(have bx0:=KX.out);(obtain⟨hcx,hfx,hlx,hnx,hmx⟩:=aC.rules bx0);(have sV:=Lib.hid bx0);(clear bx0))
 go_region
 go_wp2_with fail
 ((have hd2:Below w0.heap.size w0 w0.drew:=(Below.refl _ _).drew);(generalize w0.drew=w2 at hd2⊢))
 ((try clear hcb bn hlb hnb hmb);(have aW:=jV.out.below hd2);(obtain⟨hcb,bn,hlb,hnb,hmb⟩:=aC.rules aW.box);(have qg:=Lib.hid aW);(clear aW))
 have hbw2:=hb0.trans (hd2.mono hb0.size)
 ((try clear hcx hfx hlx hnx hmx);(have bx0:=sV.out.below hd2 sV.out.lt);(obtain⟨hcx,hfx,hlx,hnx,hmx⟩:=aC.rules bx0);(have OB:=Lib.hid bx0);(clear bx0))
 refine MF (α:=Nat) (β:=Nat) (fun qa qb W=>aC W qa #[.slice au mu cu,.int .i64 bb.lost] 93∧aC W qb #[.int .u64 tm1,.string WW] 138∧Below w2.heap.size w2 W∧w2.heap.size≤qa∧w2.heap.size≤qb∧qa≠qb) ?G ?_ ?_
 rotate_left
 ·((refine aY (fun W=>Below w2.heap.size w2 W) (fun i=>decide (i<25)&&i !=21&&i !=22) aj ?_);
          (have hS:Below w2.heap.size w2 w2.drew:=(Below.refl _ _).drew);
          (refine tk 0 37 hS ?_);
          (refine tk 1 38 hS ?_);
          (refine tk 2 39 hS ?_);
          (refine tk 3 40 hS ?_);
          (refine tk 4 41 hS ?_ (hy:=Or.inl ⟨aF,yt⟩));
          (refine tk 5 42 hS ?_);
          (refine tk 6 43 hS ?_ (hy:=Or.inl ⟨aF,yt⟩));
          (refine tk 7 44 hS ?_);
          (refine cO 8 (oi:=⟨some 45,_,_,_,_,_⟩) rfl aj sx hS (gU 95 _ rfl (b:=bi) (off:=oi+m*5) (bf.uI c).cells bf.lX hvc aF bg (fun W hs=>HCI.out.below (hbw2.trans (hs.mono hbw2.size)) hbi)) ?_);
          (try simp only[pt]);
          (refine tk 9 46 hS ?_);
          (refine tk 10 47 hS ?_);
          (refine tk 11 48 hS ?_);
          (refine tk 12 49 hS ?_);
          (refine tk 13 50 hS ?_ (hy:=Or.inl ⟨aF,yt⟩));
          (refine tk 14 51 hS ?_);
          (refine tk 15 52 hS ?_ (hy:=Or.inl ⟨aF,yt⟩));
          (refine tk 16 53 hS ?_);
          (refine cO 17 (oi:=⟨some 54,_,_,_,_,_⟩) rfl aj sx hS (gU 93 _ rfl (b:=bo) (off:=oo+m*2) (WQ ub bb).cells Sw hvo aF bg (fun W hs=>HCO.out.below (hbw2.trans (hs.mono hbw2.size)) CU)) ?_);
          (try simp only[pt]);
          (refine KN 18 23 24 (oi:=⟨some 55,_,_,_,_,_⟩) (oj:=⟨some 8,_,_,_,_,_⟩) (ol:=⟨some 9,_,_,_,_,_⟩) rfl rfl rfl aj rfl rfl rfl (fun K hK=>?_) (fun K hK=>?_) (fun K hK=>?_));
          (focus((go_simp;(with_reducible refine(G8.out _ (hbw2.trans (hS.mono hbw2.size))).mono ?_);rintro en w4 ⟨rfl,hb4⟩;(have hS:=hS.trans (Below.mono hb4 hS.size));(have vT:=hb4.size);(try(have hBa:=aC.below hBa hb4 hBa.lt));(try(have hBb:=aC.below hBb hb4 hBb.lt));(try go_wp2_with fail));(refine hK.out _ _ (fun _=>bF) ?_;clear hK K);(try simp only[pt]);(refine tk 19 36 hS ?_);(try simp only[pt]);(refine bG 21 (oi:=⟨some 57,_,_,_,_,_⟩) (v:=?_) rfl aj sx (Or.inl ⟨aF,?_⟩) ?_;rotate_left;focus((intro W hW);go_simp;(all_goals with_reducible rfl)));(try simp only[pt]);(refine bG 22 (oi:=⟨some 58,_,_,_,_,_⟩) (v:=?_) rfl aj sx (Or.inl ⟨aF,?_⟩) ?_;rotate_left;focus((intro W hW);go_simp;(all_goals with_reducible rfl)));(try simp only[pt]);(refine tk 20 56 hS ?_);(try simp only[pt]);(refine gI 23 24 (oi:=⟨some 8,_,_,_,_,_⟩) (oj:=⟨some 9,_,_,_,_,_⟩) rfl rfl aj rfl rfl (fun K hK=>?_) (fun K hK=>?_));(focus(((refine gD 93 rfl (z:= .agg #[.slice none 0 0,.int .i64 0]) aj #[.slice none 0 0,.int .i64 0] rfl ?_;intro qa wa hBa hda xX hla;(have hqq:=xX);(have xX:=Nat.le_trans (Below.size hS) xX);(have hza:=hda.size);(try(have hBb:=aC.below hBb hda hBb.lt))));(refine hidS hK (hS.trans (hda.mono hS.size)) (fun hS=>?_);clear hK K);(try simp only[pt]);(refine aK 24 (oi:=⟨some 9,_,_,_,_,_⟩) rfl aj rfl (fun K hK=>?_));((refine gD 138 rfl (z:= .agg #[.int .u64 0,.string ⟨#[]⟩]) aj #[.int .u64 0,.string ⟨#[]⟩] rfl ?_;intro qb wb hBb hdb zK abA;(have abw:=zK);(have zK:=Nat.le_trans (Below.size hS) zK);(have hzb:=hdb.size);(try(have hBa:=aC.below hBa hdb hBa.lt))));(refine hidS hK (hS.trans (hdb.mono hS.size)) (fun hS=>?_);clear hK K);(try simp only[pt]);(refine aT 25 aj ?_ rfl);(simp only[List.toList_toArray,List.drop_succ_cons,List.drop_zero]);((have hab:qa≠qb:=ah);(have vS:qb≠qa:=ah);(obtain⟨ja1,ja2,ja3,ja4,ja5⟩:=aC.rules hBa);(obtain⟨jb1,jb2,jb3,jb4,jb5⟩:=aC.rules hBb);go_wp2_with fail;(first|(refine oG.of qa qb ⟨?_,?_,?_,xX,zK,hab⟩ ?_)|(trace_state;fail));(focus(exact((((hBa.set 0 _).set 1 _).other _ _ hab).other _ _ hab)));(focus(exact(((hBb.other _ _ vS).other _ _ vS).set 0 _).set 1 _));(focus exact bl);with_reducible rfl)));(focus(((refine gD 138 rfl (z:= .agg #[.int .u64 0,.string ⟨#[]⟩]) aj #[.int .u64 0,.string ⟨#[]⟩] rfl ?_;intro qb wb hBb hdb zK abA;(have abw:=zK);(have zK:=Nat.le_trans (Below.size hS) zK);(have hzb:=hdb.size);(try(have hBa:=aC.below hBa hdb hBa.lt))));(refine hidS hK (hS.trans (hdb.mono hS.size)) (fun hS=>?_);clear hK K);(try simp only[pt]);(refine aK 23 (oi:=⟨some 8,_,_,_,_,_⟩) rfl aj rfl (fun K hK=>?_));((refine gD 93 rfl (z:= .agg #[.slice none 0 0,.int .i64 0]) aj #[.slice none 0 0,.int .i64 0] rfl ?_;intro qa wa hBa hda xX hla;(have hqq:=xX);(have xX:=Nat.le_trans (Below.size hS) xX);(have hza:=hda.size);(try(have hBb:=aC.below hBb hda hBb.lt))));(refine hidS hK (hS.trans (hda.mono hS.size)) (fun hS=>?_);clear hK K);(try simp only[pt]);(refine aT 25 aj ?_ rfl);(simp only[List.toList_toArray,List.drop_succ_cons,List.drop_zero]);((have hab:qa≠qb:=ah);(have vS:qb≠qa:=ah);(obtain⟨ja1,ja2,ja3,ja4,ja5⟩:=aC.rules hBa);(obtain⟨jb1,jb2,jb3,jb4,jb5⟩:=aC.rules hBb);go_wp2_with fail;(first|(refine oG.of qa qb ⟨?_,?_,?_,xX,zK,hab⟩ ?_)|(trace_state;fail));(focus(exact((((hBa.set 0 _).set 1 _).other _ _ hab).other _ _ hab)));(focus(exact(((hBb.other _ _ vS).other _ _ vS).set 0 _).set 1 _));(focus exact bl);with_reducible rfl)))));
          (focus(((refine gD 93 rfl (z:= .agg #[.slice none 0 0,.int .i64 0]) aj #[.slice none 0 0,.int .i64 0] rfl ?_;intro qa wa hBa hda xX hla;(have hqq:=xX);(have xX:=Nat.le_trans (Below.size hS) xX);(have hza:=hda.size);(try(have hBb:=aC.below hBb hda hBb.lt))));(refine hidS hK (hS.trans (hda.mono hS.size)) (fun hS=>?_);clear hK K);(try simp only[pt]);(refine gI 18 24 (oi:=⟨some 55,_,_,_,_,_⟩) (oj:=⟨some 9,_,_,_,_,_⟩) rfl rfl aj rfl rfl (fun K hK=>?_) (fun K hK=>?_));(focus((go_simp;(with_reducible refine(G8.out _ (hbw2.trans (hS.mono hbw2.size))).mono ?_);rintro en w4 ⟨rfl,hb4⟩;(have hS:=hS.trans (Below.mono hb4 hS.size));(have vT:=hb4.size);(try(have hBa:=aC.below hBa hb4 hBa.lt));(try(have hBb:=aC.below hBb hb4 hBb.lt));(try go_wp2_with fail));(refine hK.out _ _ (fun _=>bF) ?_;clear hK K);(try simp only[pt]);(refine tk 19 36 hS ?_);(try simp only[pt]);(refine bG 21 (oi:=⟨some 57,_,_,_,_,_⟩) (v:=?_) rfl aj sx (Or.inl ⟨aF,?_⟩) ?_;rotate_left;focus((intro W hW);go_simp;(all_goals with_reducible rfl)));(try simp only[pt]);(refine bG 22 (oi:=⟨some 58,_,_,_,_,_⟩) (v:=?_) rfl aj sx (Or.inl ⟨aF,?_⟩) ?_;rotate_left;focus((intro W hW);go_simp;(all_goals with_reducible rfl)));(try simp only[pt]);(refine tk 20 56 hS ?_);(try simp only[pt]);(refine aK 24 (oi:=⟨some 9,_,_,_,_,_⟩) rfl aj rfl (fun K hK=>?_));((refine gD 138 rfl (z:= .agg #[.int .u64 0,.string ⟨#[]⟩]) aj #[.int .u64 0,.string ⟨#[]⟩] rfl ?_;intro qb wb hBb hdb zK abA;(have abw:=zK);(have zK:=Nat.le_trans (Below.size hS) zK);(have hzb:=hdb.size);(try(have hBa:=aC.below hBa hdb hBa.lt))));(refine hidS hK (hS.trans (hdb.mono hS.size)) (fun hS=>?_);clear hK K);(try simp only[pt]);(refine aT 25 aj ?_ rfl);(simp only[List.toList_toArray,List.drop_succ_cons,List.drop_zero]);((have hab:qa≠qb:=ah);(have vS:qb≠qa:=ah);(obtain⟨ja1,ja2,ja3,ja4,ja5⟩:=aC.rules hBa);(obtain⟨jb1,jb2,jb3,jb4,jb5⟩:=aC.rules hBb);go_wp2_with fail;(first|(refine oG.of qa qb ⟨?_,?_,?_,xX,zK,hab⟩ ?_)|(trace_state;fail));(focus(exact((((hBa.set 0 _).set 1 _).other _ _ hab).other _ _ hab)));(focus(exact(((hBb.other _ _ vS).other _ _ vS).set 0 _).set 1 _));(focus exact bl);with_reducible rfl)));(focus(((refine gD 138 rfl (z:= .agg #[.int .u64 0,.string ⟨#[]⟩]) aj #[.int .u64 0,.string ⟨#[]⟩] rfl ?_;intro qb wb hBb hdb zK abA;(have abw:=zK);(have zK:=Nat.le_trans (Below.size hS) zK);(have hzb:=hdb.size);(try(have hBa:=aC.below hBa hdb hBa.lt))));(refine hidS hK (hS.trans (hdb.mono hS.size)) (fun hS=>?_);clear hK K);(try simp only[pt]);(refine aK 18 (oi:=⟨some 55,_,_,_,_,_⟩) rfl aj rfl (fun K hK=>?_));(go_simp;(with_reducible refine(G8.out _ (hbw2.trans (hS.mono hbw2.size))).mono ?_);rintro en w4 ⟨rfl,hb4⟩;(have hS:=hS.trans (Below.mono hb4 hS.size));(have vT:=hb4.size);(try(have hBa:=aC.below hBa hb4 hBa.lt));(try(have hBb:=aC.below hBb hb4 hBb.lt));(try go_wp2_with fail));(refine hK.out _ _ (fun _=>bF) ?_;clear hK K);(try simp only[pt]);(refine tk 19 36 hS ?_);(try simp only[pt]);(refine bG 21 (oi:=⟨some 57,_,_,_,_,_⟩) (v:=?_) rfl aj sx (Or.inl ⟨aF,?_⟩) ?_;rotate_left;focus((intro W hW);go_simp;(all_goals with_reducible rfl)));(try simp only[pt]);(refine bG 22 (oi:=⟨some 58,_,_,_,_,_⟩) (v:=?_) rfl aj sx (Or.inl ⟨aF,?_⟩) ?_;rotate_left;focus((intro W hW);go_simp;(all_goals with_reducible rfl)));(try simp only[pt]);(refine tk 20 56 hS ?_);(try simp only[pt]);(refine aT 25 aj ?_ rfl);(simp only[List.toList_toArray,List.drop_succ_cons,List.drop_zero]);((have hab:qa≠qb:=ah);(have vS:qb≠qa:=ah);(obtain⟨ja1,ja2,ja3,ja4,ja5⟩:=aC.rules hBa);(obtain⟨jb1,jb2,jb3,jb4,jb5⟩:=aC.rules hBb);go_wp2_with fail;(first|(refine oG.of qa qb ⟨?_,?_,?_,xX,zK,hab⟩ ?_)|(trace_state;fail));(focus(exact((((hBa.set 0 _).set 1 _).other _ _ hab).other _ _ hab)));(focus(exact(((hBb.other _ _ vS).other _ _ vS).set 0 _).set 1 _));(focus exact bl);with_reducible rfl)))));
          (focus(((refine gD 138 rfl (z:= .agg #[.int .u64 0,.string ⟨#[]⟩]) aj #[.int .u64 0,.string ⟨#[]⟩] rfl ?_;intro qb wb hBb hdb zK abA;(have abw:=zK);(have zK:=Nat.le_trans (Below.size hS) zK);(have hzb:=hdb.size);(try(have hBa:=aC.below hBa hdb hBa.lt))));(refine hidS hK (hS.trans (hdb.mono hS.size)) (fun hS=>?_);clear hK K);(try simp only[pt]);(refine gI 18 23 (oi:=⟨some 55,_,_,_,_,_⟩) (oj:=⟨some 8,_,_,_,_,_⟩) rfl rfl aj rfl rfl (fun K hK=>?_) (fun K hK=>?_));(focus((go_simp;(with_reducible refine(G8.out _ (hbw2.trans (hS.mono hbw2.size))).mono ?_);rintro en w4 ⟨rfl,hb4⟩;(have hS:=hS.trans (Below.mono hb4 hS.size));(have vT:=hb4.size);(try(have hBa:=aC.below hBa hb4 hBa.lt));(try(have hBb:=aC.below hBb hb4 hBb.lt));(try go_wp2_with fail));(refine hK.out _ _ (fun _=>bF) ?_;clear hK K);(try simp only[pt]);(refine tk 19 36 hS ?_);(try simp only[pt]);(refine bG 21 (oi:=⟨some 57,_,_,_,_,_⟩) (v:=?_) rfl aj sx (Or.inl ⟨aF,?_⟩) ?_;rotate_left;focus((intro W hW);go_simp;(all_goals with_reducible rfl)));(try simp only[pt]);(refine bG 22 (oi:=⟨some 58,_,_,_,_,_⟩) (v:=?_) rfl aj sx (Or.inl ⟨aF,?_⟩) ?_;rotate_left;focus((intro W hW);go_simp;(all_goals with_reducible rfl)));(try simp only[pt]);(refine tk 20 56 hS ?_);(try simp only[pt]);(refine aK 23 (oi:=⟨some 8,_,_,_,_,_⟩) rfl aj rfl (fun K hK=>?_));((refine gD 93 rfl (z:= .agg #[.slice none 0 0,.int .i64 0]) aj #[.slice none 0 0,.int .i64 0] rfl ?_;intro qa wa hBa hda xX hla;(have hqq:=xX);(have xX:=Nat.le_trans (Below.size hS) xX);(have hza:=hda.size);(try(have hBb:=aC.below hBb hda hBb.lt))));(refine hidS hK (hS.trans (hda.mono hS.size)) (fun hS=>?_);clear hK K);(try simp only[pt]);(refine aT 25 aj ?_ rfl);(simp only[List.toList_toArray,List.drop_succ_cons,List.drop_zero]);((have hab:qa≠qb:=ah);(have vS:qb≠qa:=ah);(obtain⟨ja1,ja2,ja3,ja4,ja5⟩:=aC.rules hBa);(obtain⟨jb1,jb2,jb3,jb4,jb5⟩:=aC.rules hBb);go_wp2_with fail;(first|(refine oG.of qa qb ⟨?_,?_,?_,xX,zK,hab⟩ ?_)|(trace_state;fail));(focus(exact((((hBa.set 0 _).set 1 _).other _ _ hab).other _ _ hab)));(focus(exact(((hBb.other _ _ vS).other _ _ vS).set 0 _).set 1 _));(focus exact bl);with_reducible rfl)));(focus(((refine gD 93 rfl (z:= .agg #[.slice none 0 0,.int .i64 0]) aj #[.slice none 0 0,.int .i64 0] rfl ?_;intro qa wa hBa hda xX hla;(have hqq:=xX);(have xX:=Nat.le_trans (Below.size hS) xX);(have hza:=hda.size);(try(have hBb:=aC.below hBb hda hBb.lt))));(refine hidS hK (hS.trans (hda.mono hS.size)) (fun hS=>?_);clear hK K);(try simp only[pt]);(refine aK 18 (oi:=⟨some 55,_,_,_,_,_⟩) rfl aj rfl (fun K hK=>?_));(go_simp;(with_reducible refine(G8.out _ (hbw2.trans (hS.mono hbw2.size))).mono ?_);rintro en w4 ⟨rfl,hb4⟩;(have hS:=hS.trans (Below.mono hb4 hS.size));(have vT:=hb4.size);(try(have hBa:=aC.below hBa hb4 hBa.lt));(try(have hBb:=aC.below hBb hb4 hBb.lt));(try go_wp2_with fail));(refine hK.out _ _ (fun _=>bF) ?_;clear hK K);(try simp only[pt]);(refine tk 19 36 hS ?_);(try simp only[pt]);(refine bG 21 (oi:=⟨some 57,_,_,_,_,_⟩) (v:=?_) rfl aj sx (Or.inl ⟨aF,?_⟩) ?_;rotate_left;focus((intro W hW);go_simp;(all_goals with_reducible rfl)));(try simp only[pt]);(refine bG 22 (oi:=⟨some 58,_,_,_,_,_⟩) (v:=?_) rfl aj sx (Or.inl ⟨aF,?_⟩) ?_;rotate_left;focus((intro W hW);go_simp;(all_goals with_reducible rfl)));(try simp only[pt]);(refine tk 20 56 hS ?_);(try simp only[pt]);(refine aT 25 aj ?_ rfl);(simp only[List.toList_toArray,List.drop_succ_cons,List.drop_zero]);((have hab:qa≠qb:=ah);(have vS:qb≠qa:=ah);(obtain⟨ja1,ja2,ja3,ja4,ja5⟩:=aC.rules hBa);(obtain⟨jb1,jb2,jb3,jb4,jb5⟩:=aC.rules hBb);go_wp2_with fail;(first|(refine oG.of qa qb ⟨?_,?_,?_,xX,zK,hab⟩ ?_)|(trace_state;fail));(focus(exact((((hBa.set 0 _).set 1 _).other _ _ hab).other _ _ hab)));(focus(exact(((hBb.other _ _ vS).other _ _ vS).set 0 _).set 1 _));(focus exact bl);with_reducible rfl))))))
 rintro qa qb w5 ⟨hBa,hBb,hS5,xX,zK,hab⟩
 have jC:=hbw2.trans (hS5.mono hbw2.size)
 have vS:qb≠qa:=fun h=>hab h.symm
 ((try clear hcb bn hlb hnb hmb);(have aW:=qg.out.below hS5);(obtain⟨hcb,bn,hlb,hnb,hmb⟩:=aC.rules aW.box);(have pU:=Lib.hid aW);(clear aW))
 ((try clear hcx hfx hlx hnx hmx);(have bx0:=OB.out.below hS5 OB.out.lt);(obtain⟨hcx,hfx,hlx,hnx,hmx⟩:=aC.rules bx0);(have OA:=Lib.hid bx0);(clear bx0))
 have OV:=Lib.hid (KP.out.below hd2 KP.out.lt)
 have Bu:=Lib.hid (OV.out.below hS5 OV.out.lt)
 ((try clear hcp hfp hlp hnp hmp);(have bx0:=Bu.out);(obtain⟨hcp,hfp,hlp,hnp,hmp⟩:=aC.rules bx0);(have Iy:=Lib.hid bx0);(clear bx0))
 have KA5:=Lib.hid hBa
 have G6:=Lib.hid hBb
 ((try clear hcy hfy hly hny hmy);(have bx0:=KA5.out);(obtain⟨hcy,hfy,hly,hny,hmy⟩:=aC.rules bx0);(have KA6:=Lib.hid bx0);(clear bx0))
 ((try clear hcz hfz hlz hnz hmz);(have bx0:=G6.out);(obtain⟨hcz,hfz,hlz,hnz,hmz⟩:=aC.rules bx0);(have yc:=Lib.hid bx0);(clear bx0))
 clear hBa hBb OV KP KX sV OB jV qg
 by_cases h3:te=0
 rotate_left
 ·rw[if_neg h3] at hr
  have d3:(te !=0)=true:=o_
  subst hr
  go_wp2_with fail
  exact bodyPost_ret (v:= .tuple #[.int .u32 0,.int .i64 6]) Fa rfl ⟨rfl,⟨s,HW.out.below jC,fun _ _ _ h=>h⟩,ay jC _⟩
 rw[if_pos h3] at hr
 subst h3
 have hwt:IntKind.u64.wrap (WW.size:Int)=WW.size:=Me
 have hwx:IntKind.u64.wrap xc=xc:=by have g:0≤xc∧xc≤4294967295:=hx.2.2.2;unfold IntKind.wrap;simp[IntKind.signed,IntKind.bits];omega
 by_cases h4:xc<WW.size
 ·rw[if_pos h4] at hr
  have d4:decide (xc<(WW.size:Int))=true:=decide_eq_true h4
  subst hr
  go_wp2_with fail
  exact bodyPost_ret (v:= .tuple #[.int .u32 0,.int .i64 4]) Fa rfl ⟨rfl,⟨s,HW.out.below jC,fun _ _ _ h=>h⟩,ay jC _⟩
 rw[if_neg h4] at hr
 have d4:decide (xc<(WW.size:Int))=false:=decide_eq_false h4
 go_wp2_with fail
 with_reducible refine(HIN.out _).mono ?_
 rintro en w6 ⟨rfl,hb6⟩
 have tu:=jC.trans (hb6.mono jC.size)
 by_cases h5:im2=0
 rotate_left
 ·rw[if_neg h5] at hr
  have d5:(im2 !=0)=true:=by simp[h5]
  subst hr
  go_wp2_with fail
  exact bodyPost_ret (v:= .tuple #[.int .u32 0,.int .i64 im2]) Fa rfl ⟨rfl,⟨s,HW.out.below tu,fun _ _ _ h=>h⟩,ay tu _⟩
 rw[if_pos h5] at hr
 subst h5
 ((try clear hcb bn hlb hnb hmb);(have aW:=pU.out.below hb6);(obtain⟨hcb,bn,hlb,hnb,hmb⟩:=aC.rules aW.box);(have Ho:=Lib.hid aW);(clear aW))
 ((try clear hcp hfp hlp hnp hmp);(have bx0:=Iy.out.below hb6 Iy.out.lt);(obtain⟨hcp,hfp,hlp,hnp,hmp⟩:=aC.rules bx0);(have KP7:=Lib.hid bx0);(clear bx0))
 have KA7:=Lib.hid (KA6.out.below hb6 KA6.out.lt)
 have KB7:=Lib.hid (yc.out.below hb6 yc.out.lt)
 have KX7:=Lib.hid (OA.out.below hb6 OA.out.lt)
 have hp5:=Iy.out.lt
 have hx5:=OA.out.lt
 have WY:=hb6.size
 have akX:=KA6.out.lt
 have akW:=yc.out.lt
 have ak3:=hS5.size
 have ak6:=hd2.size
 have Hq:Hid (Pf.Ok {q with mem:=im1}):=Lib.hid {HQ.out with mem:=by show im1.size≤_;rw[hins];exact HQ.out.mem}
 obtain⟨q2,hq2⟩:∃q2:Pf,q2={q with mem:=im1}:=⟨_,rfl⟩
 rw[←hq2] at Hq hr
 have HE2:=Lib.hid hq2
 clear hcy hfy hly hny hmy hcz hfz hlz hnz hmz hcx hfx hlx hnx hmx hq2
 go_wp2_with fail
 generalize bN:World.setCell _ _ _=w7
 have Hf:aC w7 w.heap.size (gu pid par st q2) 126:=adt
 have oK:Below w.heap.size w w7:=bM
 have Io:w7.heap.size=w6.heap.size:=bX
 have KA8:=Lib.hid (show aC w7 qa #[.slice au mu cu,.int .i64 bb.lost] 93 from by rw[←bN];exact KA7.out.other _ _ aR)
 have x9:=Lib.hid (show aC w7 qb #[.int .u64 tm1,.string WW] 138 from by rw[←bN];exact KB7.out.other _ _ aR)
 have KX8:=Lib.hid (show aC w7 (w.heap.size+1) #[.int .u32 x1,.int .u32 m,.int .u32 xb,.int .u32 xc] 124 from by rw[←bN];exact KX7.out.other _ _ aI)
 have KP8:=Lib.hid Hf
 ((try clear hcb bn hlb hnb hmb);(have aW:=HW.out.below oK);(obtain⟨hcb,bn,hlb,hnb,hmb⟩:=aC.rules aW.box);(have zL:=Lib.hid aW);(clear aW))
 have JC:=zL.out.kr.Bx.sl
 rw[hvb] at JC
 have XF:=Lib.hid JC
 have HU7:=Lib.hid (HU2.out.below oK)
 clear bN Hf JC hcp hfp hlp hnp hmp KP7 Iy Bu
 with_reducible refine(Nn _ (tZ s.bs k.bx) _ XF.out BL).mono ?_
 rintro en w8 ⟨v8,rfl,xQ,jU⟩
 obtain⟨g,n6,rfl,O7,Xu,hbg,hgl,hfg,hcg⟩:=xQ.form BL
 rw[uj hbn] at xQ O7
 ((try clear hcb bn hlb hnb hmb);(have aW:=zL.out.below jU);(obtain⟨hcb,bn,hlb,hnb,hmb⟩:=aC.rules aW.box);(have OT:=Lib.hid aW);(clear aW))
 have KA9:=Lib.hid (KA8.out.below jU KA8.out.lt)
 have KB9:=Lib.hid (x9.out.below jU x9.out.lt)
 have KP9:=Lib.hid (KP8.out.below jU KP8.out.lt)
 have KX9:=Lib.hid (KX8.out.below jU KX8.out.lt)
 have afK:=zL.out.lt
 have ha7:=KA8.out.lt
 have alr:=x9.out.lt
 have hp7:=KP8.out.lt
 have hx7:=KX8.out.lt
 have zN:=Lib.hid xQ
 clear hfg hcg xQ
 go_wp2_with fail
 generalize bN:World.setCell _ _ _=w9
 have lg:w8.grownBy w9 (some b):=nA
 have bb9:aC w9 b (kC {s with Bx:= .slice (some ⟨g,0,none⟩) k.bx.length n6} k) kT:=by rw[←bN];exact(OT.out.box.set 11 _).cast (Qr _ _ _)
 have aiv:=Lib.hid (KA9.out.grown lg aR)
 have xU:=Lib.hid (KB9.out.grown lg aR)
 have JH:=Lib.hid (KP9.out.grown lg aR)
 have aip:=Lib.hid (KX9.out.grown lg aR)
 have Bt:=Lib.hid (zN.out.Ai lg afK)
 have TR:=Lib.hid bb9
 clear bN hcb bn hlb hnb hmb bb9
 (obtain⟨hcb,bn,hlb,hnb,hmb⟩:=aC.rules TR.out)
 (obtain⟨hcy,hfy,hly,hny,hmy⟩:=aC.rules aiv.out)
 (obtain⟨hcz,hfz,hlz,hnz,hmz⟩:=aC.rules xU.out)
 (obtain⟨hcx,hfx,hlx,hnx,hmx⟩:=aC.rules aip.out)
 ((refine aY (fun W=>Below w9.heap.size w9 W) (fun i=>decide (i<9)) aj ?_);
          (have hS:Below w9.heap.size w9 w9.drew:=(Below.refl _ _).drew);
          (refine tk 0 96 hS ?_);
          (refine tk 1 97 hS ?_);
          (refine tk 2 98 hS ?_);
          (refine tk 3 99 hS ?_);
          (refine tk 4 100 hS ?_ (hy:=Or.inl ⟨aF,aff⟩));
          (refine tk 5 101 hS ?_);
          (refine tk 6 102 hS ?_ (hy:=Or.inl ⟨aF,aff⟩));
          (refine tk 7 103 hS ?_ (hy:=Or.inl ⟨aF,aff⟩));
          (refine tk 8 104 hS ?_);
          (refine aT 9 aj ?_ rfl);
          (simp only[List.toList_toArray,List.drop_succ_cons,List.drop_zero]))
 have qp:=Lib.hid (Bt.out.kept hS)
 have WZ:Val true 2 (.agg #[.slice au mu cu,.int .i64 bb.lost]):=⟨_,rfl,rfl,CW⟩
 have KBC:=Lib.hid (TR.out.below hS TR.out.lt)
 have KPC:=Lib.hid (JH.out.below hS JH.out.lt)
 have KMC:=Lib.hid (xU.out.below hS xU.out.lt)
 have hml:m<(tZ s.bs k.bx).length:=BL
 go_wp2_with(first|((with_reducible refine bO 93 ?_);(refine dw (base:=w7.heap.size) rfl _ _ rfl Sw g k.bx.length n6 qp.out m hml ?_ (.agg #[.slice au mu cu,.int .i64 bb.lost]) ?_ WZ ?_;(exact aG);(exact aG);(intro oW zU nY;(have EC:=Lib.hid zU);(have KBD:=Lib.hid (KBC.out.grown nY aR));(have KPD:=Lib.hid (KPC.out.grown nY aR));(have KMD:=Lib.hid (KMC.out.grown nY aR));(clear zU))))|fail)
 have hG7:w7.grownBy oW (some b):=kV (aA (aA (ay jU _) lg) (ay hS _)) nY hbg
 have hso:=EC.out.sl
 rw[show(Value.agg #[.slice au mu cu,.int .i64 bb.lost])=WQ (.slice au mu cu) ⟨tk1,bb.lost⟩ from rfl,Nr hbn] at hso
 have hbi:Md oW (.slice (some ⟨g,0,none⟩) k.bx.length n6) (s.bs.set m (.slice au mu cu)) (k.bx.set m ⟨tk1,bb.lost⟩):=⟨hso,by simp[hbn],fun i u y hu hy=>by
  rw[List.getElem?_set] at hu hy
  by_cases him:m=i
  ·subst him
   simp only[if_true] at hu hy
   rw[if_pos ah] at hu hy
   cases hu;cases hy
   exact HU7.out.bC hG7 (Cw zL.out.kr zL.out.box HU7.out)
  ·rw[if_neg him] at hu hy
   have:=zL.out.kr.Bx.el i u y hu hy
   exact this.bC hG7 (Cw zL.out.kr zL.out.box this)⟩
 have DR:=zL.out.aiU hG7 (KBD.out.cast tC) hbi (.inr fun c hc=>by have:=EC.out.fP c hc;omega)
 have Uo:=aA (ay oK (some b)) hG7
 clear hcb bn hlb hnb hmb hcy hfy hly hny hmy hcz hfz hlz hnz hmz hcx hfx hlx hnx hmx hso hbi
 (obtain⟨hcb,bn,hlb,hnb,hmb⟩:=aC.rules DR.box)
 ((try clear hcp hfp hlp hnp hmp);(have bx0:=KPD.out);(obtain⟨hcp,hfp,hlp,hnp,hmp⟩:=aC.rules bx0);(have KPE:=Lib.hid bx0);(clear bx0))
 ((try clear hcz hfz hlz hnz hmz);(have bx0:=KMD.out);(obtain⟨hcz,hfz,hlz,hnz,hmz⟩:=aC.rules bx0);(have KME:=Lib.hid bx0);(clear bx0))
 have H_:=Lib.hid DR
 clear DR KBC KPC TR JH KP9 xU KB9 x9 KB7 aiv KA9 KA8 KA7 aip KX9 KX8 KX7 KMC KMD
 ((refine aY (fun W=>Below oW.heap.size oW W) (fun i=>decide (i<11)) aj ?_);
          (have hS2:Below oW.heap.size oW oW.drew:=(Below.refl _ _).drew);
          (refine tk 0 105 hS2 ?_);
          (refine tk 1 106 hS2 ?_);
          (refine tk 2 107 hS2 ?_);
          (refine tk 3 108 hS2 ?_);
          (refine tk 4 109 hS2 ?_);
          (refine tk 5 110 hS2 ?_ (hy:=Or.inl ⟨aF,nM⟩));
          (refine cO 6 (oi:=⟨some 111,_,_,_,_,_⟩) rfl aj sx hS2 (dx 126 _ rfl (gu pid par st q2) Tab.aX (oz _ _ _ _) aF bg (fun W hs=>KPE.out.below hs KPE.out.lt)) ?_);
          (try simp only[pt]);
          (refine aK 7 (oi:=⟨some 112,_,_,_,_,_⟩) rfl aj rfl (fun K hK=>?_));
          (go_simp;(with_reducible refine(C9 _ k.P pid par st _ Hq.out _ (H_.out.kr.P.below hS2) hpl).mono ?_);rintro en GR ⟨v12,rfl,O5,eP⟩;(have hS2:=hS2.trans (Below.mono eP hS2.size));(obtain⟨a12,m12,n12,rfl⟩:=O5.is);(try go_wp2_with fail));
          (refine hK.out _ _ (fun _=>bF) ?_;clear hK K);
          (try simp only[pt]);
          (refine tk 8 113 hS2 ?_);
          (refine tk 9 114 hS2 ?_);
          (refine tk 10 115 hS2 ?_);
          (refine aT 11 aj ?_ rfl);
          (simp only[List.toList_toArray,List.drop_succ_cons,List.drop_zero]))
 ((try clear hcb bn hlb hnb hmb);(have aW:=H_.out.below hS2);(obtain⟨hcb,bn,hlb,hnb,hmb⟩:=aC.rules aW.box);(have agh:=Lib.hid aW);(clear aW))
 ((try clear hcz hfz hlz hnz hmz);(have bx0:=KME.out.below hS2 KME.out.lt);(obtain⟨hcz,hfz,hlz,hnz,hmz⟩:=aC.rules bx0);(have KMF:=Lib.hid bx0);(clear bx0))
 have hbz:¬qb=b:=ah
 have H12:=Lib.hid O5
 have af':=aA Uo (ay hS2 _)
 clear hcp hfp hlp hnp hmp O5
 go_wp2_with fail
 subst hr
 exact bodyPost_ret (v:= .tuple #[.int .u32 ((WW.size:Int)%4294967296),.int .i64 0]) Fa rfl ⟨rfl,⟨_,agh.out.zP H12.out,fun B hB _ h=>⟨h.1,h.2.1,h.2.2.1,h.2.2.2.1,⟨h.2.2.2.2.1.1,.inr fun c hc=>adj,h.2.2.2.2.1.2.2⟩,h.2.2.2.2.2⟩⟩,aA af' (aM _ _ _ _)⟩
end Go.Proofs.YtgmodehldmahiaaGreatDoor
