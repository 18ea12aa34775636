/- Part 38 of 53 of the proof of topAlone_and_topApart. Conditions: see each. -/
import Derived.Test.YtgmodehldmahiaaGreatDoorB14
import Derived.Test.YtgmodehldmahiaaGreatDoorB37
set_option linter.unusedVariables false
set_option linter.unusedSimpArgs false
set_option maxRecDepth 8192
set_option maxHeartbeats 40000000
section
namespace Go.Proofs.YtgmodehldmahiaaGreatDoor
open Go Go.RowKit Go.Tm
attribute [local go_sem] fO fM fK d_ dM dZ dY dX dW dV dU dS dR dQ dP dO dN iQ iP iO iN iM iL iK iG iJ iI fU fT fQ fP fI fH fC
attribute [local go_sem] Dr zV Cg uV uU Ce Cc Cb Ca
theorem Ju(s:Ks)(k:Kn)(ex:Array Value){i:Nat}(h:i<17)(v:Value):(xC s k ex).setIfInBounds i v=(kC s k).setIfInBounds i v++ex:=by
 rw[rP]
 apply Array.ext_getElem?
 intro j
 rw[Array.getElem?_setIfInBounds]
 by_cases hj:j<17
 ·rw[Array.getElem?_append_left (by rw[kY];exact hj),Array.getElem?_append_left (by rw[Array.size_setIfInBounds,kY];exact hj),Array.getElem?_setIfInBounds]
  by_cases hij:i=j
  ·subst hij
   simp only[if_true,Array.size_append,kY]
   rw[if_pos aj,if_pos h]
  ·rw[if_neg hij,if_neg hij]
 ·rw[if_neg aj,Array.getElem?_append_right U_,Array.getElem?_append_right (by rw[Array.size_setIfInBounds,kY];omega),Array.size_setIfInBounds]
section
variable (s:Ks) (k:Kn) (ex:Array Value)
theorem VH(v:Value):(xC s k ex).setIfInBounds 11 v=xC {s with Bx:=v} k ex:=by rw[Ju s k ex aC,VU,rP]
theorem VG(v:ByteArray):(xC s k ex).setIfInBounds 12 (.string v)=xC s {k with co:=v} ex:=by rw[Ju s k ex aC,ad3,rP]
theorem VF(v:Value):(xC s k ex).setIfInBounds 13 v=xC {s with Tr:=v} k ex:=by rw[Ju s k ex aC,ad2,rP]
theorem VE(v:Value):(xC s k ex).setIfInBounds 14 v=xC {s with Se:=v} k ex:=by rw[Ju s k ex aC,VT,rP]
theorem VD(v:Int):(xC s k ex).setIfInBounds 15 (.int .i64 v)=xC s {k with want:=v} ex:=by rw[Ju s k ex aC,VR,rP]
end
theorem one_set(cur:Array Value)(i:Nat)(x:Value)(hx:x.cells=#[x])(hi:i<cur.size):(cur.toList.take i++x.cells.toList++cur.toList.drop (i+1)).toArray=cur.setIfInBounds i x:=by
 apply Array.ext'
 rw[hx,Array.toList_setIfInBounds]
 simp only[List.append_assoc,List.cons_append,List.nil_append]
 rw[List.set_eq_take_append_cons_drop,if_pos OQ]
theorem jy{x:Value}(h:x.oneCell'=true):x.cells=#[x]:=by
 cases x<;>first|rfl|simp_all[Value.oneCell']
theorem yD{w:World}{ag:Bool}{n:Nat}{v:Value}{xs:List Value}(h:Sl w ag n v xs):Val false 1 v:=by
 obtain⟨_,a,cap,rfl,_⟩:=h;exact⟨rfl,rfl⟩
theorem JJ:Ty Tryz.prog 53 1 false:=⟨ay,ay,aC,ay⟩
theorem E9:Ty Tryz.prog 54 1 false:=⟨ay,ay,aC,ay⟩
theorem PI:Ty Tryz.prog 55 1 false:=⟨ay,ay,aC,ay⟩
structure rA(mem:Int)(k:Kn):Prop where
 fit:Fit (nC mem k.im k.ou k.ins k.now)
 size:(dB (nC mem k.im k.ou k.ins k.now) 0).1.size≤maxLen
 im:k.im.length≤8796093022208
 ou:k.ou.length≤1000000
 ins:k.ins.length≤1000000
theorem aaL(w:World)(b:Nat)(s:Ks)(k:Kn)(st bo:Int)(m a1 a2:Int)(hw:SW w b s k st bo (m,3,a1,a2))(hg:k.gone=1)(hs:st≠3)(hf:rA m k):
  Calls Tryz.prog 52 #[.pointer (some ⟨b,0,none⟩)] w (nJ w b s k (m,3,a1,a2) (u_ m k,st,wrap64 (bo+1))):=by
 have HW:=ah hw
 obtain⟨hcb,bC,bn,bA,bE⟩:=hw.box.rules
 have e2:(st==3)=false:=oU
 have HBO:=ah (fun W h1 h2 h3=>Ed m s.Im s.Ou s.In k.im k.ou k.ins k.now W h1 h2 h3 hf.fit hf.size hf.im hf.ou hf.ins)
 have HRK:=ah (show u_ m k={kN m k.im k.ou k.ins k.now with bx:=k.bx,co:=k.co,tr:=k.tr,se:=k.se,want:=k.want} from rfl)
 generalize kN m k.im k.ou k.ins k.now=kb at*
 clear hw hs
 go_enter Tryz.func52,Tryz.ntmps52
 go_wp2_with fail
 go_region
 go_upto_block 0 with fail
 (have su:Below w.heap.size w w.drew:=(Below.refl _ _).drew;generalize w.drew=w1 at su⊢)
 (refine bU ?_;refine cO aC ?_;refine uE aC ?_;apply cZ;(focus((apply fV (hid:=by decide));go_wp2_with fail;exact⟨rfl,rfl,rfl⟩)))
 have h1:=HW.out.below su
 have HW1:=ah h1
 have MQ:=h1.kr.val
 have hcc:=ru h1.box
 clear hcb bC bn bA bE
 obtain⟨hcb,bC,bn,bA,bE⟩:=h1.box.rules
 clear h1
 go_wp2_with(first|((with_reducible refine cK 57 ?_);(refine aN rfl 57 _ rfl b (0) ?_ (.agg (kC s k)) eU (MQ) hcc ?_;(exact aM)))|((with_reducible refine bS 57 ?_);(refine aU rfl 57 _ _ rfl (kC s k) eU (MQ) aF ?_ ?_ ?_;(exact aM);(exact aM)))|fail)
 generalize bR:World.alloc _ _=w2
 have KL:Hid (aD w2 w1.heap.size (kC s k) 57):=ah O6
 have hb2:Below w1.heap.size w1 w2:=yZ
 have QM:=ah (HW1.out.below hb2)
 have hz2:=hb2.size
 have hz1:=su.size
 clear bR hcb bC bn bA bE hcc
 obtain⟨hcb,bC,bn,bA,bE⟩:=QM.out.box.rules
 obtain⟨nO,LU,Ug,hnl,Ey⟩:=aD.rules KL.out
 ((refine aY (fun W=>Below w2.heap.size w2 W) (fun i=>decide (i<18)) ay ?_);
          have hS:Below w2.heap.size w2 w2.drew:=(Below.refl _ _).drew;
          (refine tk 0 64 hS ?_);
          (refine tk 1 65 hS ?_);
          (refine tk 2 66 hS ?_);
          (refine tk 3 67 hS ?_);
          (refine tk 4 68 hS ?_);
          (refine tk 5 69 hS ?_ (hy:=Or.inl ⟨aF,uO⟩));
          (refine tk 6 70 hS ?_);
          (refine tk 7 71 hS ?_ (hy:=Or.inl ⟨aF,uO⟩));
          (refine tk 8 72 hS ?_);
          (refine tk 9 73 hS ?_ (hy:=Or.inl ⟨aF,uO⟩));
          (refine tk 10 74 hS ?_);
          (refine tk 11 75 hS ?_ (hy:=Or.inl ⟨aF,uO⟩));
          (refine tk 12 76 hS ?_);
          (refine tk 13 77 hS ?_ (hy:=Or.inl ⟨aF,uO⟩));
          (refine aJ 14 (oi:=⟨some 78,_,_,_,_,_⟩) rfl ay rfl (fun K hK=>?_));
          (go_simp;(with_reducible refine(HBO.out _ (QM.out.kr.Im.below hS) (QM.out.kr.Ou.below hS) (QM.out.kr.In.below hS)).mono ?_);rintro en w3 ⟨s3,rfl,uI,vQ,hb3⟩;have hS:=hS.trans (Below.mono hb3 hS.size);skip;(try go_wp2_with fail));
          (refine hK.out _ _ (fun _=>b_) ?_;clear hK K);
          (try simp only[pt]);
          (refine tk 15 79 hS ?_);
          (refine tk 16 80 hS ?_);
          (refine tk 17 81 hS ?_);
          (refine aZ 18 ay ?_ rfl);
          simp only[List.toList_toArray,List.drop_succ_cons,List.drop_zero])
 have hz3:=hS.size
 have yX:=ah (QM.out.below hS)
 have KL3:=ah (KL.out.below hS KL.out.lt)
 have OB:=uI.val
 have afZ:(xC s k (wx st bo (m,3,a1,a2))).size=23:=yw
 have amN:=KL3.out.lt
 have UR:b<w1.heap.size:=HW1.out.box.lt
 have Mi:=ah uI
 have Dl:=ah (show∀B,B<w2.heap.size→jF B s3 kb from fun B hB=>vQ B aco)
 clear hcb bC bn bA bE nO LU Ug hnl Ey vQ uI
 go_wp2_with(first|((with_reducible refine bS 57 ?_);(refine aR rfl 57 _ _ rfl yX.out.box (.agg (kC s3 kb)) eU (OB) ?_ (_) (Jv s s3 k kb (wx st bo (m,3,a1,a2))) ?_ ?_ ?_;(exact gG);(exact aM);(exact aM);(intro w4 Uj hg4 xU hb4;have Zb:=ah Uj;have KL4:=ah (KL3.out.grown hg4 aV))))|fail)
 obtain⟨hcb,bC,bn,bA,bE⟩:=Zb.out.rules
 obtain⟨nO,LU,Ug,hnl,Ey⟩:=aD.rules KL4.out
 have hlL:w1.heap.size≠b:=aj
 ((refine aY (fun W=>aD W w1.heap.size (kC s k) 57) (fun i=>decide (i<40)) ay ?_);
          have gY:(fun W=>aD W w1.heap.size (kC s k) 57) w4.drew:=KL4.out.drew;
          (refine tk 0 82 gY ?_);
          (refine tk 1 83 gY ?_);
          (refine tk 2 84 gY ?_);
          (refine tk 3 85 gY ?_);
          (refine tk 4 86 gY ?_);
          (refine tk 5 87 gY ?_);
          (refine tk 6 88 gY ?_ (hy:=Or.inl ⟨aF,uN⟩));
          (refine tk 7 89 gY ?_);
          (refine tk 8 90 gY ?_ (hy:=Or.inl ⟨aF,uN⟩));
          (refine tk 9 91 gY ?_);
          (refine tk 10 92 gY ?_ (hy:=Or.inl ⟨aF,uN⟩));
          (refine tk 11 93 gY ?_);
          (refine tk 12 94 gY ?_ (hy:=Or.inl ⟨aF,uN⟩));
          (refine tk 13 95 gY ?_);
          (refine tk 14 96 gY ?_ (hy:=Or.inl ⟨aF,uN⟩));
          (refine tk 15 97 gY ?_);
          (refine tk 16 98 gY ?_);
          (refine tk 17 99 gY ?_);
          (refine tk 18 100 gY ?_);
          (refine aJ 19 (oi:=⟨none,_,_,_,_,_⟩) rfl ay rfl (fun K hK=>?_));
          ((refine eP 53 _ _ rfl Zb.out.drew (s.Bx) JJ (yD yX.out.kr.Bx.sl) qj (xC {s3 with Bx:=s.Bx} kb (wx st bo (m,3,a1,a2))) ((one_set _ 11 _ (jy (j5 yX.out.kr.Bx.sl)) qh).trans (VH _ _ _ _)) bG bG ?_;intro w5 LH nK LP kV));
          (refine hidS hK (gY.grown nK aV) (fun gY=>?_);clear hK K);
          (try simp only[pt]);
          (refine tk 20 101 gY ?_);
          (refine tk 21 102 gY ?_);
          (refine tk 22 103 gY ?_);
          (refine tk 23 104 gY ?_);
          (refine aJ 24 (oi:=⟨none,_,_,_,_,_⟩) rfl ay rfl (fun K hK=>?_));
          ((refine eP 9 _ _ rfl LH (.string k.co) Pp (⟨rfl,rfl⟩) qj (xC {s3 with Bx:=s.Bx} {kb with co:=k.co} (wx st bo (m,3,a1,a2))) ((one_set _ 12 _ (jy rfl) qh).trans (VG _ _ _ _)) bG bG ?_;intro w6 bp6 A8 hz6 kM));
          (refine hidS hK (gY.grown A8 aV) (fun gY=>?_);clear hK K);
          (try simp only[pt]);
          (refine tk 25 105 gY ?_);
          (refine tk 26 106 gY ?_);
          (refine tk 27 107 gY ?_);
          (refine tk 28 108 gY ?_);
          (refine aJ 29 (oi:=⟨none,_,_,_,_,_⟩) rfl ay rfl (fun K hK=>?_));
          ((refine eP 54 _ _ rfl bp6 (s.Tr) E9 (yD yX.out.kr.Tr) qj (xC {s3 with Bx:=s.Bx,Tr:=s.Tr} {kb with co:=k.co} (wx st bo (m,3,a1,a2))) ((one_set _ 13 _ (jy (j5 yX.out.kr.Tr)) qh).trans (VF _ _ _ _)) bG bG ?_;intro w7 LW yS LC pE));
          (refine hidS hK (gY.grown yS aV) (fun gY=>?_);clear hK K);
          (try simp only[pt]);
          (refine tk 30 109 gY ?_);
          (refine tk 31 110 gY ?_);
          (refine tk 32 111 gY ?_);
          (refine tk 33 112 gY ?_);
          (refine aJ 34 (oi:=⟨none,_,_,_,_,_⟩) rfl ay rfl (fun K hK=>?_));
          ((refine eP 55 _ _ rfl LW (s.Se) PI (yD yX.out.kr.Se) qj (xC {s3 with Bx:=s.Bx,Tr:=s.Tr,Se:=s.Se} {kb with co:=k.co} (wx st bo (m,3,a1,a2))) ((one_set _ 14 _ (jy (j5 yX.out.kr.Se)) qh).trans (VE _ _ _ _)) bG bG ?_;intro w8 bp8 Uh Uu ku));
          (refine hidS hK (gY.grown Uh aV) (fun gY=>?_);clear hK K);
          (try simp only[pt]);
          (refine tk 35 113 gY ?_);
          (refine tk 36 114 gY ?_);
          (refine tk 37 115 gY ?_);
          (refine tk 38 116 gY ?_);
          (refine aJ 39 (oi:=⟨none,_,_,_,_,_⟩) rfl ay rfl (fun K hK=>?_));
          ((refine eP 3 _ _ rfl bp8 (.int .i64 k.want) ji.lS (⟨rfl,rfl⟩) qj (xC {s3 with Bx:=s.Bx,Tr:=s.Tr,Se:=s.Se} {kb with co:=k.co,want:=k.want} (wx st bo (m,3,a1,a2))) ((one_set _ 15 _ (jy rfl) qh).trans (VD _ _ _ _)) bG bG ?_;intro w9 Eo nE Qr oN));
          (refine hidS hK (gY.grown nE aV) (fun gY=>?_);clear hK K);
          (try simp only[pt]);
          (refine mJ ay ?_))
 have Za:=ah Eo
 have Q_:=ah (aB hg4 (aB (aA ((Below.refl w4.heap.size w4).drew) (some b)) (aB nK (aB A8 (aB yS (aB Uh nE))))))
 clear hcb bC bn bA bE nO LU Ug hnl Ey LH bp6 LW bp8 Eo nK A8 yS Uh nE
 obtain⟨hcb,bC,bn,bA,bE⟩:=Za.out.rules
 have hkq:=vC yX.out.kr (wx st bo (m,3,a1,a2))
 go_wp2_with fail
 refine eu ?_
 go_wp2_with fail
 have hrk:=HRK.out
 have hlw:=HW.out.box.lt
 have hGa:=aB Q_.out (aO w9 b 18 (.int .i64 (wrap64 (bo+1))))
 have krA:=Mi.out.bP (ks:=wu) (Dl.out b aj) yX.out.box hkq zU aC aC aC hGa
 have krB:=yX.out.kr.bP (ks:=wu) yX.out.aw yX.out.box hkq zU aC aC aC hGa
 have IE:=aB (aB (aA (su.trans ((hb2.mono hz1).trans (hS.mono aj))) (some b)) Q_.out) (aO w9 b 18 (.int .i64 (wrap64 (bo+1))))
 have hfa:∀B,B<w.heap.size→jF B s k→jF B {s3 with Bx:=s.Bx,bs:=s.bs,Tr:=s.Tr,Se:=s.Se} {kb with bx:=k.bx,co:=k.co,tr:=k.tr,se:=k.se,want:=k.want}:=fun B hB h=>by
  exact acH
 have JF:nJ w b s k (m,3,a1,a2) (u_ m k,st,wrap64 (bo+1)) (.returned (.tuple #[])) (w9.setCell ⟨b,18,none⟩ (.int .i64 (wrap64 (bo+1)))):=acK
 exact bodyPost_end (v:= .tuple #[]) qX rfl JF
end Go.Proofs.YtgmodehldmahiaaGreatDoor
end
section
namespace Go.Proofs.YtgmodehldmahiaaGreatDoor
open Go Go.RowKit Go.Tm
attribute [local go_sem] fO fM fK d_ dM dZ dY dX dW dV dU dS dR dQ dP dO dN iQ iP iO iN iM iL iK iG iJ iI fU fT fQ fP fI fH fC
attribute [local go_sem] Dr zV Cg uV uU Ce Cc Cb Ca
theorem aaH(w:World)(b:Nat)(s:Ks)(k:Kn)(st bo:Int)(m a0 a2:Int)(hw:SW w b s k st bo (m,a0,3,a2))(hg:k.gone=2)(hs:st≠3)(hf:rA m k):
  Calls Tryz.prog 52 #[.pointer (some ⟨b,0,none⟩)] w (nJ w b s k (m,a0,3,a2) (u_ m k,st,wrap64 (bo+1))):=by
 have HW:=ah hw
 obtain⟨hcb,bC,bn,bA,bE⟩:=hw.box.rules
 have e2:(st==3)=false:=oU
 have HBO:=ah (fun W h1 h2 h3=>Ed m s.Im s.Ou s.In k.im k.ou k.ins k.now W h1 h2 h3 hf.fit hf.size hf.im hf.ou hf.ins)
 have HRK:=ah (show u_ m k={kN m k.im k.ou k.ins k.now with bx:=k.bx,co:=k.co,tr:=k.tr,se:=k.se,want:=k.want} from rfl)
 generalize kN m k.im k.ou k.ins k.now=kb at*
 clear hw hs
 go_enter Tryz.func52,Tryz.ntmps52
 go_wp2_with fail
 go_region
 go_upto_block 0 with fail
 (have su:Below w.heap.size w w.drew:=(Below.refl _ _).drew;generalize w.drew=w1 at su⊢)
 (refine bU ?_;refine cO aC ?_;refine uE aC ?_;apply cZ;(focus((apply fV (hid:=by decide));go_wp2_with fail;exact⟨rfl,rfl,rfl⟩)))
 have h1:=HW.out.below su
 have HW1:=ah h1
 have MQ:=h1.kr.val
 have hcc:=ru h1.box
 clear hcb bC bn bA bE
 obtain⟨hcb,bC,bn,bA,bE⟩:=h1.box.rules
 clear h1
 go_wp2_with(first|((with_reducible refine cK 57 ?_);(refine aN rfl 57 _ rfl b (0) ?_ (.agg (kC s k)) eU (MQ) hcc ?_;(exact aM)))|((with_reducible refine bS 57 ?_);(refine aU rfl 57 _ _ rfl (kC s k) eU (MQ) aF ?_ ?_ ?_;(exact aM);(exact aM)))|fail)
 generalize bR:World.alloc _ _=w2
 have KL:Hid (aD w2 w1.heap.size (kC s k) 57):=ah O6
 have hb2:Below w1.heap.size w1 w2:=yZ
 have QM:=ah (HW1.out.below hb2)
 have hz2:=hb2.size
 have hz1:=su.size
 clear bR hcb bC bn bA bE hcc
 obtain⟨hcb,bC,bn,bA,bE⟩:=QM.out.box.rules
 obtain⟨nO,LU,Ug,hnl,Ey⟩:=aD.rules KL.out
 ((refine aY (fun W=>Below w2.heap.size w2 W) (fun i=>decide (i<18)) ay ?_);
          have hS:Below w2.heap.size w2 w2.drew:=(Below.refl _ _).drew;
          (refine tk 0 64 hS ?_);
          (refine tk 1 65 hS ?_);
          (refine tk 2 66 hS ?_);
          (refine tk 3 67 hS ?_);
          (refine tk 4 68 hS ?_);
          (refine tk 5 69 hS ?_ (hy:=Or.inl ⟨aF,uO⟩));
          (refine tk 6 70 hS ?_);
          (refine tk 7 71 hS ?_ (hy:=Or.inl ⟨aF,uO⟩));
          (refine tk 8 72 hS ?_);
          (refine tk 9 73 hS ?_ (hy:=Or.inl ⟨aF,uO⟩));
          (refine tk 10 74 hS ?_);
          (refine tk 11 75 hS ?_ (hy:=Or.inl ⟨aF,uO⟩));
          (refine tk 12 76 hS ?_);
          (refine tk 13 77 hS ?_ (hy:=Or.inl ⟨aF,uO⟩));
          (refine aJ 14 (oi:=⟨some 78,_,_,_,_,_⟩) rfl ay rfl (fun K hK=>?_));
          (go_simp;(with_reducible refine(HBO.out _ (QM.out.kr.Im.below hS) (QM.out.kr.Ou.below hS) (QM.out.kr.In.below hS)).mono ?_);rintro en w3 ⟨s3,rfl,uI,vQ,hb3⟩;have hS:=hS.trans (Below.mono hb3 hS.size);skip;(try go_wp2_with fail));
          (refine hK.out _ _ (fun _=>b_) ?_;clear hK K);
          (try simp only[pt]);
          (refine tk 15 79 hS ?_);
          (refine tk 16 80 hS ?_);
          (refine tk 17 81 hS ?_);
          (refine aZ 18 ay ?_ rfl);
          simp only[List.toList_toArray,List.drop_succ_cons,List.drop_zero])
 have hz3:=hS.size
 have yX:=ah (QM.out.below hS)
 have KL3:=ah (KL.out.below hS KL.out.lt)
 have OB:=uI.val
 have afZ:(xC s k (wx st bo (m,a0,3,a2))).size=23:=yw
 have amN:=KL3.out.lt
 have UR:b<w1.heap.size:=HW1.out.box.lt
 have Mi:=ah uI
 have Dl:=ah (show∀B,B<w2.heap.size→jF B s3 kb from fun B hB=>vQ B aco)
 clear hcb bC bn bA bE nO LU Ug hnl Ey vQ uI
 go_wp2_with(first|((with_reducible refine bS 57 ?_);(refine aR rfl 57 _ _ rfl yX.out.box (.agg (kC s3 kb)) eU (OB) ?_ (_) (Jv s s3 k kb (wx st bo (m,a0,3,a2))) ?_ ?_ ?_;(exact gG);(exact aM);(exact aM);(intro w4 Uj hg4 xU hb4;have Zb:=ah Uj;have KL4:=ah (KL3.out.grown hg4 aV))))|fail)
 obtain⟨hcb,bC,bn,bA,bE⟩:=Zb.out.rules
 obtain⟨nO,LU,Ug,hnl,Ey⟩:=aD.rules KL4.out
 have hlL:w1.heap.size≠b:=aj
 ((refine aY (fun W=>aD W w1.heap.size (kC s k) 57) (fun i=>decide (i<40)) ay ?_);
          have gY:(fun W=>aD W w1.heap.size (kC s k) 57) w4.drew:=KL4.out.drew;
          (refine tk 0 82 gY ?_);
          (refine tk 1 83 gY ?_);
          (refine tk 2 84 gY ?_);
          (refine tk 3 85 gY ?_);
          (refine tk 4 86 gY ?_);
          (refine tk 5 87 gY ?_);
          (refine tk 6 88 gY ?_ (hy:=Or.inl ⟨aF,uN⟩));
          (refine tk 7 89 gY ?_);
          (refine tk 8 90 gY ?_ (hy:=Or.inl ⟨aF,uN⟩));
          (refine tk 9 91 gY ?_);
          (refine tk 10 92 gY ?_ (hy:=Or.inl ⟨aF,uN⟩));
          (refine tk 11 93 gY ?_);
          (refine tk 12 94 gY ?_ (hy:=Or.inl ⟨aF,uN⟩));
          (refine tk 13 95 gY ?_);
          (refine tk 14 96 gY ?_ (hy:=Or.inl ⟨aF,uN⟩));
          (refine tk 15 97 gY ?_);
          (refine tk 16 98 gY ?_);
          (refine tk 17 99 gY ?_);
          (refine tk 18 100 gY ?_);
          (refine aJ 19 (oi:=⟨none,_,_,_,_,_⟩) rfl ay rfl (fun K hK=>?_));
          ((refine eP 53 _ _ rfl Zb.out.drew (s.Bx) JJ (yD yX.out.kr.Bx.sl) qj (xC {s3 with Bx:=s.Bx} kb (wx st bo (m,a0,3,a2))) ((one_set _ 11 _ (jy (j5 yX.out.kr.Bx.sl)) qh).trans (VH _ _ _ _)) bG bG ?_;intro w5 LH nK LP kV));
          (refine hidS hK (gY.grown nK aV) (fun gY=>?_);clear hK K);
          (try simp only[pt]);
          (refine tk 20 101 gY ?_);
          (refine tk 21 102 gY ?_);
          (refine tk 22 103 gY ?_);
          (refine tk 23 104 gY ?_);
          (refine aJ 24 (oi:=⟨none,_,_,_,_,_⟩) rfl ay rfl (fun K hK=>?_));
          ((refine eP 9 _ _ rfl LH (.string k.co) Pp (⟨rfl,rfl⟩) qj (xC {s3 with Bx:=s.Bx} {kb with co:=k.co} (wx st bo (m,a0,3,a2))) ((one_set _ 12 _ (jy rfl) qh).trans (VG _ _ _ _)) bG bG ?_;intro w6 bp6 A8 hz6 kM));
          (refine hidS hK (gY.grown A8 aV) (fun gY=>?_);clear hK K);
          (try simp only[pt]);
          (refine tk 25 105 gY ?_);
          (refine tk 26 106 gY ?_);
          (refine tk 27 107 gY ?_);
          (refine tk 28 108 gY ?_);
          (refine aJ 29 (oi:=⟨none,_,_,_,_,_⟩) rfl ay rfl (fun K hK=>?_));
          ((refine eP 54 _ _ rfl bp6 (s.Tr) E9 (yD yX.out.kr.Tr) qj (xC {s3 with Bx:=s.Bx,Tr:=s.Tr} {kb with co:=k.co} (wx st bo (m,a0,3,a2))) ((one_set _ 13 _ (jy (j5 yX.out.kr.Tr)) qh).trans (VF _ _ _ _)) bG bG ?_;intro w7 LW yS LC pE));
          (refine hidS hK (gY.grown yS aV) (fun gY=>?_);clear hK K);
          (try simp only[pt]);
          (refine tk 30 109 gY ?_);
          (refine tk 31 110 gY ?_);
          (refine tk 32 111 gY ?_);
          (refine tk 33 112 gY ?_);
          (refine aJ 34 (oi:=⟨none,_,_,_,_,_⟩) rfl ay rfl (fun K hK=>?_));
          ((refine eP 55 _ _ rfl LW (s.Se) PI (yD yX.out.kr.Se) qj (xC {s3 with Bx:=s.Bx,Tr:=s.Tr,Se:=s.Se} {kb with co:=k.co} (wx st bo (m,a0,3,a2))) ((one_set _ 14 _ (jy (j5 yX.out.kr.Se)) qh).trans (VE _ _ _ _)) bG bG ?_;intro w8 bp8 Uh Uu ku));
          (refine hidS hK (gY.grown Uh aV) (fun gY=>?_);clear hK K);
          (try simp only[pt]);
          (refine tk 35 113 gY ?_);
          (refine tk 36 114 gY ?_);
          (refine tk 37 115 gY ?_);
          (refine tk 38 116 gY ?_);
          (refine aJ 39 (oi:=⟨none,_,_,_,_,_⟩) rfl ay rfl (fun K hK=>?_));
          ((refine eP 3 _ _ rfl bp8 (.int .i64 k.want) ji.lS (⟨rfl,rfl⟩) qj (xC {s3 with Bx:=s.Bx,Tr:=s.Tr,Se:=s.Se} {kb with co:=k.co,want:=k.want} (wx st bo (m,a0,3,a2))) ((one_set _ 15 _ (jy rfl) qh).trans (VD _ _ _ _)) bG bG ?_;intro w9 Eo nE Qr oN));
          (refine hidS hK (gY.grown nE aV) (fun gY=>?_);clear hK K);
          (try simp only[pt]);
          (refine mJ ay ?_))
 have Za:=ah Eo
 have Q_:=ah (aB hg4 (aB (aA ((Below.refl w4.heap.size w4).drew) (some b)) (aB nK (aB A8 (aB yS (aB Uh nE))))))
 clear hcb bC bn bA bE nO LU Ug hnl Ey LH bp6 LW bp8 Eo nK A8 yS Uh nE
 obtain⟨hcb,bC,bn,bA,bE⟩:=Za.out.rules
 have hkq:=vC yX.out.kr (wx st bo (m,a0,3,a2))
 go_wp2_with fail
 refine eu ?_
 go_wp2_with fail
 have hrk:=HRK.out
 have hlw:=HW.out.box.lt
 have hGa:=aB Q_.out (aO w9 b 18 (.int .i64 (wrap64 (bo+1))))
 have krA:=Mi.out.bP (ks:=wu) (Dl.out b aj) yX.out.box hkq zU aC aC aC hGa
 have krB:=yX.out.kr.bP (ks:=wu) yX.out.aw yX.out.box hkq zU aC aC aC hGa
 have IE:=aB (aB (aA (su.trans ((hb2.mono hz1).trans (hS.mono aj))) (some b)) Q_.out) (aO w9 b 18 (.int .i64 (wrap64 (bo+1))))
 have hfa:∀B,B<w.heap.size→jF B s k→jF B {s3 with Bx:=s.Bx,bs:=s.bs,Tr:=s.Tr,Se:=s.Se} {kb with bx:=k.bx,co:=k.co,tr:=k.tr,se:=k.se,want:=k.want}:=fun B hB h=>by
  exact acH
 have JF:nJ w b s k (m,a0,3,a2) (u_ m k,st,wrap64 (bo+1)) (.returned (.tuple #[])) (w9.setCell ⟨b,18,none⟩ (.int .i64 (wrap64 (bo+1)))):=acK
 exact bodyPost_end (v:= .tuple #[]) qX rfl JF
end Go.Proofs.YtgmodehldmahiaaGreatDoor
end
section
namespace Go.Proofs.YtgmodehldmahiaaGreatDoor
open Go Go.RowKit Go.Tm
attribute [local go_sem] fO fM fK d_ dM dZ dY dX dW dV dU dS dR dQ dP dO dN iQ iP iO iN iM iL iK iG iJ iI fU fT fQ fP fI fH fC
attribute [local go_sem] Dr zV Cg uV uU Ce Cc Cb Ca
theorem aaD(w:World)(b:Nat)(s:Ks)(k:Kn)(st bo:Int)(m a0 a1:Int)(hw:SW w b s k st bo (m,a0,a1,3))(hg:k.gone=3)(hs:st≠3)(hf:rA m k):
  Calls Tryz.prog 52 #[.pointer (some ⟨b,0,none⟩)] w (nJ w b s k (m,a0,a1,3) (u_ m k,st,wrap64 (bo+1))):=by
 have HW:=ah hw
 obtain⟨hcb,bC,bn,bA,bE⟩:=hw.box.rules
 have e2:(st==3)=false:=oU
 have HBO:=ah (fun W h1 h2 h3=>Ed m s.Im s.Ou s.In k.im k.ou k.ins k.now W h1 h2 h3 hf.fit hf.size hf.im hf.ou hf.ins)
 have HRK:=ah (show u_ m k={kN m k.im k.ou k.ins k.now with bx:=k.bx,co:=k.co,tr:=k.tr,se:=k.se,want:=k.want} from rfl)
 generalize kN m k.im k.ou k.ins k.now=kb at*
 clear hw hs
 go_enter Tryz.func52,Tryz.ntmps52
 go_wp2_with fail
 go_region
 go_upto_block 0 with fail
 (have su:Below w.heap.size w w.drew:=(Below.refl _ _).drew;generalize w.drew=w1 at su⊢)
 (refine bU ?_;refine cO aC ?_;refine uE aC ?_;apply cZ;(focus((apply fV (hid:=by decide));go_wp2_with fail;exact⟨rfl,rfl,rfl⟩)))
 have h1:=HW.out.below su
 have HW1:=ah h1
 have MQ:=h1.kr.val
 have hcc:=ru h1.box
 clear hcb bC bn bA bE
 obtain⟨hcb,bC,bn,bA,bE⟩:=h1.box.rules
 clear h1
 go_wp2_with(first|((with_reducible refine cK 57 ?_);(refine aN rfl 57 _ rfl b (0) ?_ (.agg (kC s k)) eU (MQ) hcc ?_;(exact aM)))|((with_reducible refine bS 57 ?_);(refine aU rfl 57 _ _ rfl (kC s k) eU (MQ) aF ?_ ?_ ?_;(exact aM);(exact aM)))|fail)
 generalize bR:World.alloc _ _=w2
 have KL:Hid (aD w2 w1.heap.size (kC s k) 57):=ah O6
 have hb2:Below w1.heap.size w1 w2:=yZ
 have QM:=ah (HW1.out.below hb2)
 have hz2:=hb2.size
 have hz1:=su.size
 clear bR hcb bC bn bA bE hcc
 obtain⟨hcb,bC,bn,bA,bE⟩:=QM.out.box.rules
 obtain⟨nO,LU,Ug,hnl,Ey⟩:=aD.rules KL.out
 ((refine aY (fun W=>Below w2.heap.size w2 W) (fun i=>decide (i<18)) ay ?_);
          have hS:Below w2.heap.size w2 w2.drew:=(Below.refl _ _).drew;
          (refine tk 0 64 hS ?_);
          (refine tk 1 65 hS ?_);
          (refine tk 2 66 hS ?_);
          (refine tk 3 67 hS ?_);
          (refine tk 4 68 hS ?_);
          (refine tk 5 69 hS ?_ (hy:=Or.inl ⟨aF,uO⟩));
          (refine tk 6 70 hS ?_);
          (refine tk 7 71 hS ?_ (hy:=Or.inl ⟨aF,uO⟩));
          (refine tk 8 72 hS ?_);
          (refine tk 9 73 hS ?_ (hy:=Or.inl ⟨aF,uO⟩));
          (refine tk 10 74 hS ?_);
          (refine tk 11 75 hS ?_ (hy:=Or.inl ⟨aF,uO⟩));
          (refine tk 12 76 hS ?_);
          (refine tk 13 77 hS ?_ (hy:=Or.inl ⟨aF,uO⟩));
          (refine aJ 14 (oi:=⟨some 78,_,_,_,_,_⟩) rfl ay rfl (fun K hK=>?_));
          (go_simp;(with_reducible refine(HBO.out _ (QM.out.kr.Im.below hS) (QM.out.kr.Ou.below hS) (QM.out.kr.In.below hS)).mono ?_);rintro en w3 ⟨s3,rfl,uI,vQ,hb3⟩;have hS:=hS.trans (Below.mono hb3 hS.size);skip;(try go_wp2_with fail));
          (refine hK.out _ _ (fun _=>b_) ?_;clear hK K);
          (try simp only[pt]);
          (refine tk 15 79 hS ?_);
          (refine tk 16 80 hS ?_);
          (refine tk 17 81 hS ?_);
          (refine aZ 18 ay ?_ rfl);
          simp only[List.toList_toArray,List.drop_succ_cons,List.drop_zero])
 have hz3:=hS.size
 have yX:=ah (QM.out.below hS)
 have KL3:=ah (KL.out.below hS KL.out.lt)
 have OB:=uI.val
 have afZ:(xC s k (wx st bo (m,a0,a1,3))).size=23:=yw
 have amN:=KL3.out.lt
 have UR:b<w1.heap.size:=HW1.out.box.lt
 have Mi:=ah uI
 have Dl:=ah (show∀B,B<w2.heap.size→jF B s3 kb from fun B hB=>vQ B aco)
 clear hcb bC bn bA bE nO LU Ug hnl Ey vQ uI
 go_wp2_with(first|((with_reducible refine bS 57 ?_);(refine aR rfl 57 _ _ rfl yX.out.box (.agg (kC s3 kb)) eU (OB) ?_ (_) (Jv s s3 k kb (wx st bo (m,a0,a1,3))) ?_ ?_ ?_;(exact gG);(exact aM);(exact aM);(intro w4 Uj hg4 xU hb4;have Zb:=ah Uj;have KL4:=ah (KL3.out.grown hg4 aV))))|fail)
 obtain⟨hcb,bC,bn,bA,bE⟩:=Zb.out.rules
 obtain⟨nO,LU,Ug,hnl,Ey⟩:=aD.rules KL4.out
 have hlL:w1.heap.size≠b:=aj
 ((refine aY (fun W=>aD W w1.heap.size (kC s k) 57) (fun i=>decide (i<40)) ay ?_);
          have gY:(fun W=>aD W w1.heap.size (kC s k) 57) w4.drew:=KL4.out.drew;
          (refine tk 0 82 gY ?_);
          (refine tk 1 83 gY ?_);
          (refine tk 2 84 gY ?_);
          (refine tk 3 85 gY ?_);
          (refine tk 4 86 gY ?_);
          (refine tk 5 87 gY ?_);
          (refine tk 6 88 gY ?_ (hy:=Or.inl ⟨aF,uN⟩));
          (refine tk 7 89 gY ?_);
          (refine tk 8 90 gY ?_ (hy:=Or.inl ⟨aF,uN⟩));
          (refine tk 9 91 gY ?_);
          (refine tk 10 92 gY ?_ (hy:=Or.inl ⟨aF,uN⟩));
          (refine tk 11 93 gY ?_);
          (refine tk 12 94 gY ?_ (hy:=Or.inl ⟨aF,uN⟩));
          (refine tk 13 95 gY ?_);
          (refine tk 14 96 gY ?_ (hy:=Or.inl ⟨aF,uN⟩));
          (refine tk 15 97 gY ?_);
          (refine tk 16 98 gY ?_);
          (refine tk 17 99 gY ?_);
          (refine tk 18 100 gY ?_);
          (refine aJ 19 (oi:=⟨none,_,_,_,_,_⟩) rfl ay rfl (fun K hK=>?_));
          ((refine eP 53 _ _ rfl Zb.out.drew (s.Bx) JJ (yD yX.out.kr.Bx.sl) qj (xC {s3 with Bx:=s.Bx} kb (wx st bo (m,a0,a1,3))) ((one_set _ 11 _ (jy (j5 yX.out.kr.Bx.sl)) qh).trans (VH _ _ _ _)) bG bG ?_;intro w5 LH nK LP kV));
          (refine hidS hK (gY.grown nK aV) (fun gY=>?_);clear hK K);
          (try simp only[pt]);
          (refine tk 20 101 gY ?_);
          (refine tk 21 102 gY ?_);
          (refine tk 22 103 gY ?_);
          (refine tk 23 104 gY ?_);
          (refine aJ 24 (oi:=⟨none,_,_,_,_,_⟩) rfl ay rfl (fun K hK=>?_));
          ((refine eP 9 _ _ rfl LH (.string k.co) Pp (⟨rfl,rfl⟩) qj (xC {s3 with Bx:=s.Bx} {kb with co:=k.co} (wx st bo (m,a0,a1,3))) ((one_set _ 12 _ (jy rfl) qh).trans (VG _ _ _ _)) bG bG ?_;intro w6 bp6 A8 hz6 kM));
          (refine hidS hK (gY.grown A8 aV) (fun gY=>?_);clear hK K);
          (try simp only[pt]);
          (refine tk 25 105 gY ?_);
          (refine tk 26 106 gY ?_);
          (refine tk 27 107 gY ?_);
          (refine tk 28 108 gY ?_);
          (refine aJ 29 (oi:=⟨none,_,_,_,_,_⟩) rfl ay rfl (fun K hK=>?_));
          ((refine eP 54 _ _ rfl bp6 (s.Tr) E9 (yD yX.out.kr.Tr) qj (xC {s3 with Bx:=s.Bx,Tr:=s.Tr} {kb with co:=k.co} (wx st bo (m,a0,a1,3))) ((one_set _ 13 _ (jy (j5 yX.out.kr.Tr)) qh).trans (VF _ _ _ _)) bG bG ?_;intro w7 LW yS LC pE));
          (refine hidS hK (gY.grown yS aV) (fun gY=>?_);clear hK K);
          (try simp only[pt]);
          (refine tk 30 109 gY ?_);
          (refine tk 31 110 gY ?_);
          (refine tk 32 111 gY ?_);
          (refine tk 33 112 gY ?_);
          (refine aJ 34 (oi:=⟨none,_,_,_,_,_⟩) rfl ay rfl (fun K hK=>?_));
          ((refine eP 55 _ _ rfl LW (s.Se) PI (yD yX.out.kr.Se) qj (xC {s3 with Bx:=s.Bx,Tr:=s.Tr,Se:=s.Se} {kb with co:=k.co} (wx st bo (m,a0,a1,3))) ((one_set _ 14 _ (jy (j5 yX.out.kr.Se)) qh).trans (VE _ _ _ _)) bG bG ?_;intro w8 bp8 Uh Uu ku));
          (refine hidS hK (gY.grown Uh aV) (fun gY=>?_);clear hK K);
          (try simp only[pt]);
          (refine tk 35 113 gY ?_);
          (refine tk 36 114 gY ?_);
          (refine tk 37 115 gY ?_);
          (refine tk 38 116 gY ?_);
          (refine aJ 39 (oi:=⟨none,_,_,_,_,_⟩) rfl ay rfl (fun K hK=>?_));
          ((refine eP 3 _ _ rfl bp8 (.int .i64 k.want) ji.lS (⟨rfl,rfl⟩) qj (xC {s3 with Bx:=s.Bx,Tr:=s.Tr,Se:=s.Se} {kb with co:=k.co,want:=k.want} (wx st bo (m,a0,a1,3))) ((one_set _ 15 _ (jy rfl) qh).trans (VD _ _ _ _)) bG bG ?_;intro w9 Eo nE Qr oN));
          (refine hidS hK (gY.grown nE aV) (fun gY=>?_);clear hK K);
          (try simp only[pt]);
          (refine mJ ay ?_))
 have Za:=ah Eo
 have Q_:=ah (aB hg4 (aB (aA ((Below.refl w4.heap.size w4).drew) (some b)) (aB nK (aB A8 (aB yS (aB Uh nE))))))
 clear hcb bC bn bA bE nO LU Ug hnl Ey LH bp6 LW bp8 Eo nK A8 yS Uh nE
 obtain⟨hcb,bC,bn,bA,bE⟩:=Za.out.rules
 have hkq:=vC yX.out.kr (wx st bo (m,a0,a1,3))
 go_wp2_with fail
 refine eu ?_
 go_wp2_with fail
 have hrk:=HRK.out
 have hlw:=HW.out.box.lt
 have hGa:=aB Q_.out (aO w9 b 18 (.int .i64 (wrap64 (bo+1))))
 have krA:=Mi.out.bP (ks:=wu) (Dl.out b aj) yX.out.box hkq zU aC aC aC hGa
 have krB:=yX.out.kr.bP (ks:=wu) yX.out.aw yX.out.box hkq zU aC aC aC hGa
 have IE:=aB (aB (aA (su.trans ((hb2.mono hz1).trans (hS.mono aj))) (some b)) Q_.out) (aO w9 b 18 (.int .i64 (wrap64 (bo+1))))
 have hfa:∀B,B<w.heap.size→jF B s k→jF B {s3 with Bx:=s.Bx,bs:=s.bs,Tr:=s.Tr,Se:=s.Se} {kb with bx:=k.bx,co:=k.co,tr:=k.tr,se:=k.se,want:=k.want}:=fun B hB h=>by
  exact acH
 have JF:nJ w b s k (m,a0,a1,3) (u_ m k,st,wrap64 (bo+1)) (.returned (.tuple #[])) (w9.setCell ⟨b,18,none⟩ (.int .i64 (wrap64 (bo+1)))):=acK
 exact bodyPost_end (v:= .tuple #[]) qX rfl JF
end Go.Proofs.YtgmodehldmahiaaGreatDoor
end
section
namespace Go.Proofs.YtgmodehldmahiaaGreatDoor
open Go Go.RowKit Go.Tm
theorem AJ(w:World)(b:Nat)(s:Ks)(k:Kn)(st bo:Int)(x:Il)(hw:SW w b s k st bo x)(hf:k.gone≠0→Mg x k.gone=3→rA x.1 k):
  Calls Tryz.prog 52 #[.pointer (some ⟨b,0,none⟩)] w (nJ w b s k x (eY x k st bo)):=by
 unfold eY
 by_cases h0:k.gone=0∨st=3
 ·rw[if_pos h0];exact WO w b s k st bo x hw h0
 rw[if_neg h0]
 have hg0:k.gone≠0:=fun h=>h0 (.inl h)
 have hs:st≠3:=fun h=>h0 (.inr h)
 replace hf:=hf hg0
 obtain⟨m,a0,a1,a2⟩:=x
 unfold Mg at*
 dsimp only at*
 by_cases g1:k.gone=1
 ·rw[if_pos g1] at*
  by_cases c2:a0=2
  ·rw[if_pos c2];subst c2;exact aaM w b s k st bo m a1 a2 hw g1 hs
  rw[if_neg c2]
  by_cases c3:a0=3
  ·rw[if_pos c3];subst c3;exact aaL w b s k st bo m a1 a2 hw g1 hs (hf rfl)
  rw[if_neg c3]
  by_cases c1:a0=1
  ·subst c1;exact aaN w b s k st bo m a1 a2 hw g1 hs
  ·exact aaK w b s k st bo m a0 a1 a2 hw g1 hs c2 c3 c1
 rw[if_neg g1] at*
 by_cases g2:k.gone=2
 ·rw[if_pos g2] at*
  by_cases c2:a1=2
  ·rw[if_pos c2];subst c2;exact aaI w b s k st bo m a0 a2 hw g2 hs
  rw[if_neg c2]
  by_cases c3:a1=3
  ·rw[if_pos c3];subst c3;exact aaH w b s k st bo m a0 a2 hw g2 hs (hf rfl)
  rw[if_neg c3]
  by_cases c1:a1=1
  ·subst c1;exact aaJ w b s k st bo m a0 a2 hw g2 hs
  ·exact aaG w b s k st bo m a0 a1 a2 hw g2 hs c2 c3 c1
 rw[if_neg g2] at*
 by_cases g3:k.gone=3
 ·rw[if_pos g3] at*
  by_cases c2:a2=2
  ·rw[if_pos c2];subst c2;exact aaE w b s k st bo m a0 a1 hw g3 hs
  rw[if_neg c2]
  by_cases c3:a2=3
  ·rw[if_pos c3];subst c3;exact aaD w b s k st bo m a0 a1 hw g3 hs (hf rfl)
  rw[if_neg c3]
  by_cases c1:a2=1
  ·subst c1;exact aaF w b s k st bo m a0 a1 hw g3 hs
  ·exact aaC w b s k st bo m a0 a1 a2 hw g3 hs c2 c3 c1
 rw[if_neg g3,if_neg aC,if_neg aC]
 exact ag3 w b s k st bo m a0 a1 a2 hw hg0 aj hs
end Go.Proofs.YtgmodehldmahiaaGreatDoor
end
