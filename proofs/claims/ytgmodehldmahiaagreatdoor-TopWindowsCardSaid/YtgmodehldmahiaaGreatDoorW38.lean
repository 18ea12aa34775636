/- Part 38 of 50 of the proof of topWindows_holds. Conditions: see each. -/
import Derived.Test.YtgmodehldmahiaaGreatDoorW14
import Derived.Test.YtgmodehldmahiaaGreatDoorW37
set_option linter.unusedVariables false
set_option linter.unusedSimpArgs false
set_option maxRecDepth 8192
set_option maxHeartbeats 40000000
section
namespace Go.Proofs.YtgmodehldmahiaaGreatDoor
open Go Go.RowKit Go.Tm
attribute [local go_sem] fB fA fu dR dA dQ dP dO dN dM dL dK dJ dI dH dG dF iq ig h_ g_ gZ gY gX gN gW gV fF fE fD fC eY eX eU
attribute [local go_sem] wz wM yY tK uR yX yV yU yT
theorem Fv(s:Ks)(k:Kn)(ex:Array Value){i:Nat}(h:i<17)(v:Value):(xC s k ex).setIfInBounds i v=(kC s k).setIfInBounds i v++ex:=by
 rw[oP]
 apply Array.ext_getElem?
 intro j
 rw[Array.getElem?_setIfInBounds]
 by_cases hj:j<17
 ·rw[Array.getElem?_append_left (by rw[jX];exact hj),Array.getElem?_append_left (by rw[Array.size_setIfInBounds,jX];exact hj),Array.getElem?_setIfInBounds]
  by_cases hij:i=j
  ·subst hij
   simp only[if_true,Array.size_append,jX]
   rw[if_pos ah,if_pos h]
  ·rw[if_neg hij,if_neg hij]
 ·rw[if_neg ah,Array.getElem?_append_right PD,Array.getElem?_append_right (by rw[Array.size_setIfInBounds,jX];omega),Array.size_setIfInBounds]
section
variable (s:Ks) (k:Kn) (ex:Array Value)
theorem Qk(v:Value):(xC s k ex).setIfInBounds 11 v=xC {s with Bx:=v} k ex:=by rw[Fv s k ex aB,Qr,oP]
theorem Qj(v:ByteArray):(xC s k ex).setIfInBounds 12 (.string v)=xC s {k with co:=v} ex:=by rw[Fv s k ex aB,Zn,oP]
theorem Qi(v:Value):(xC s k ex).setIfInBounds 13 v=xC {s with Tr:=v} k ex:=by rw[Fv s k ex aB,Zm,oP]
theorem Qh(v:Value):(xC s k ex).setIfInBounds 14 v=xC {s with Se:=v} k ex:=by rw[Fv s k ex aB,Qq,oP]
theorem Qg(v:Int):(xC s k ex).setIfInBounds 15 (.int .i64 v)=xC s {k with want:=v} ex:=by rw[Fv s k ex aB,Qp,oP]
end
theorem one_set(cur:Array Value)(i:Nat)(x:Value)(hx:x.cells=#[x])(hi:i<cur.size):(cur.toList.take i++x.cells.toList++cur.toList.drop (i+1)).toArray=cur.setIfInBounds i x:=by
 apply Array.ext'
 rw[hx,Array.toList_setIfInBounds]
 simp only[List.append_assoc,List.cons_append,List.nil_append]
 rw[List.set_eq_take_append_cons_drop,if_pos JJ]
theorem iG{x:Value}(h:x.oneCell'=true):x.cells=#[x]:=by
 cases x<;>first|rfl|simp_all[Value.oneCell']
theorem uS{w:World}{ag:Bool}{n:Nat}{v:Value}{xs:List Value}(h:Sl w ag n v xs):Val false 1 v:=by
 obtain⟨_,a,cap,rfl,_⟩:=h;exact⟨rfl,rfl⟩
theorem FK:Ty Tryz.prog 53 1 false:=⟨aj,aj,aB,aj⟩
theorem Cb:Ty Tryz.prog 54 1 false:=⟨aj,aj,aB,aj⟩
theorem Ko:Ty Tryz.prog 55 1 false:=⟨aj,aj,aB,aj⟩
structure oJ(mem:Int)(k:Kn):Prop where
 fit:Fit (kI mem k.im k.ou k.ins k.now)
 size:(bY (kI mem k.im k.ou k.ins k.now) 0).1.size≤maxLen
 im:k.im.length≤8796093022208
 ou:k.ou.length≤1000000
 ins:k.ins.length≤1000000
theorem VI(w:World)(b:Nat)(s:Ks)(k:Kn)(st bo:Int)(m a1 a2:Int)(hw:SW w b s k st bo (m,3,a1,a2))(hg:k.gone=1)(hs:st≠3)(hf:oJ m k):
  Calls Tryz.prog 52 #[.pointer (some ⟨b,0,none⟩)] w (lD w b s k (m,3,a1,a2) (rQ m k,st,wrap64 (bo+1))):=by
 have HW:=Lib.hid hw
 obtain⟨hcb,bn,hlb,hnb,hmb⟩:=hw.box.rules
 have e2:(st==3)=false:=oh
 have HBO:=Lib.hid (fun W h1 h2 h3=>A_ m s.Im s.Ou s.In k.im k.ou k.ins k.now W h1 h2 h3 hf.fit hf.size hf.im hf.ou hf.ins)
 have HRK:=Lib.hid (show rQ m k={jk m k.im k.ou k.ins k.now with bx:=k.bx,co:=k.co,tr:=k.tr,se:=k.se,want:=k.want} from rfl)
 generalize jk m k.im k.ou k.ins k.now=kb at*
 clear hw hs
 go_enter Tryz.func52,Tryz.ntmps52
 go_wp2_with fail
 go_region
 go_upto_block 0 with fail
 ((have hd1:Below w.heap.size w w.drew:=(Below.refl _ _).drew);(generalize w.drew=w1 at hd1⊢))
 (refine bH ?_;refine bQ aB ?_;refine qV aB ?_;apply bR;(focus((apply bJ (hid:=by decide));go_wp2_with fail;exact⟨rfl,rfl,rfl⟩)))
 have h1:=HW.out.below hd1
 have HW1:=Lib.hid h1
 have hkv:=h1.kr.val
 have hcc:=wS h1.box
 clear hcb bn hlb hnb hmb
 obtain⟨hcb,bn,hlb,hnb,hmb⟩:=h1.box.rules
 clear h1
 go_wp2_with(first|((with_reducible refine bS 57 ?_);(refine aO rfl 57 _ rfl b (0) ?_ (.agg (kC s k)) eG (hkv) hcc ?_;(exact aG)))|((with_reducible refine bO 57 ?_);(refine aU rfl 57 _ _ rfl (kC s k) eG (hkv) aF ?_ ?_ ?_;(exact aG);(exact aG)))|fail)
 generalize bN:World.alloc _ _=w2
 have KL:Hid (aC w2 w1.heap.size (kC s k) 57):=Lib.hid PN
 have hb2:Below w1.heap.size w1 w2:=wh
 have HW2:=Lib.hid (HW1.out.below hb2)
 have hz2:=hb2.size
 have hz1:=hd1.size
 clear bN hcb bn hlb hnb hmb hcc
 obtain⟨hcb,bn,hlb,hnb,hmb⟩:=HW2.out.box.rules
 (obtain⟨hcl,hfl,hll,hnl,hml⟩:=aC.rules KL.out)
 ((refine aY (fun W=>Below w2.heap.size w2 W) (fun i=>decide (i<18)) aj ?_);
          (have hS:Below w2.heap.size w2 w2.drew:=(Below.refl _ _).drew);
          (refine tk 0 64 hS ?_);
          (refine tk 1 65 hS ?_);
          (refine tk 2 66 hS ?_);
          (refine tk 3 67 hS ?_);
          (refine tk 4 68 hS ?_);
          (refine tk 5 69 hS ?_ (hy:=Or.inl ⟨aF,rA⟩));
          (refine tk 6 70 hS ?_);
          (refine tk 7 71 hS ?_ (hy:=Or.inl ⟨aF,rA⟩));
          (refine tk 8 72 hS ?_);
          (refine tk 9 73 hS ?_ (hy:=Or.inl ⟨aF,rA⟩));
          (refine tk 10 74 hS ?_);
          (refine tk 11 75 hS ?_ (hy:=Or.inl ⟨aF,rA⟩));
          (refine tk 12 76 hS ?_);
          (refine tk 13 77 hS ?_ (hy:=Or.inl ⟨aF,rA⟩));
          (refine aK 14 (oi:=⟨some 78,_,_,_,_,_⟩) rfl aj rfl (fun K hK=>?_));
          (go_simp;(with_reducible refine(HBO.out _ (HW2.out.kr.Im.below hS) (HW2.out.kr.Ou.below hS) (HW2.out.kr.In.below hS)).mono ?_);rintro en w3 ⟨s3,rfl,qY,qH,hb3⟩;(have hS:=hS.trans (Below.mono hb3 hS.size));skip;(try go_wp2_with fail));
          (refine hK.out _ _ (fun _=>bF) ?_;clear hK K);
          (try simp only[pt]);
          (refine tk 15 79 hS ?_);
          (refine tk 16 80 hS ?_);
          (refine tk 17 81 hS ?_);
          (refine aT 18 aj ?_ rfl);
          (simp only[List.toList_toArray,List.drop_succ_cons,List.drop_zero]))
 have hz3:=hS.size
 have HW3:=Lib.hid (HW2.out.below hS)
 have KL3:=Lib.hid (KL.out.below hS KL.out.lt)
 have JE:=qY.val
 have abu:(xC s k (wx st bo (m,3,a1,a2))).size=23:=uO
 have ahP:=KL3.out.lt
 have Xt:b<w1.heap.size:=HW1.out.box.lt
 have Ia:=Lib.hid qY
 have z8:=Lib.hid (show∀B,B<w2.heap.size→iL B s3 kb from fun B hB=>qH B XV)
 clear hcb bn hlb hnb hmb hcl hfl hll hnl hml qH qY
 go_wp2_with(first|((with_reducible refine bO 57 ?_);(refine aN rfl 57 _ _ rfl HW3.out.box (.agg (kC s3 kb)) eG (JE) ?_ (_) (Fw s s3 k kb (wx st bo (m,3,a1,a2))) ?_ ?_ ?_;(exact fK);(exact aG);(exact aG);(intro w4 Oy hg4 vT hb4;(have T_:=Lib.hid Oy);(have KL4:=Lib.hid (KL3.out.grown hg4 aR)))))|fail)
 obtain⟨hcb,bn,hlb,hnb,hmb⟩:=T_.out.rules
 (obtain⟨hcl,hfl,hll,hnl,hml⟩:=aC.rules KL4.out)
 have hlL:w1.heap.size≠b:=ah
 ((refine aY (fun W=>aC W w1.heap.size (kC s k) 57) (fun i=>decide (i<40)) aj ?_);
          (have fU:(fun W=>aC W w1.heap.size (kC s k) 57) w4.drew:=KL4.out.drew);
          (refine tk 0 82 fU ?_);
          (refine tk 1 83 fU ?_);
          (refine tk 2 84 fU ?_);
          (refine tk 3 85 fU ?_);
          (refine tk 4 86 fU ?_);
          (refine tk 5 87 fU ?_);
          (refine tk 6 88 fU ?_ (hy:=Or.inl ⟨aF,rz⟩));
          (refine tk 7 89 fU ?_);
          (refine tk 8 90 fU ?_ (hy:=Or.inl ⟨aF,rz⟩));
          (refine tk 9 91 fU ?_);
          (refine tk 10 92 fU ?_ (hy:=Or.inl ⟨aF,rz⟩));
          (refine tk 11 93 fU ?_);
          (refine tk 12 94 fU ?_ (hy:=Or.inl ⟨aF,rz⟩));
          (refine tk 13 95 fU ?_);
          (refine tk 14 96 fU ?_ (hy:=Or.inl ⟨aF,rz⟩));
          (refine tk 15 97 fU ?_);
          (refine tk 16 98 fU ?_);
          (refine tk 17 99 fU ?_);
          (refine tk 18 100 fU ?_);
          (refine aK 19 (oi:=⟨none,_,_,_,_,_⟩) rfl aj rfl (fun K hK=>?_));
          ((refine dB 53 _ _ rfl T_.out.drew (s.Bx) FK (uS HW3.out.kr.Bx.sl) nD (xC {s3 with Bx:=s.Bx} kb (wx st bo (m,3,a1,a2))) ((one_set _ 11 _ (iG (jB HW3.out.kr.Bx.sl)) nC).trans (Qk _ _ _ _)) bg bg ?_;intro w5 G5 hg5 GY hb5));
          (refine hidS hK (fU.grown hg5 aR) (fun fU=>?_);clear hK K);
          (try simp only[pt]);
          (refine tk 20 101 fU ?_);
          (refine tk 21 102 fU ?_);
          (refine tk 22 103 fU ?_);
          (refine tk 23 104 fU ?_);
          (refine aK 24 (oi:=⟨none,_,_,_,_,_⟩) rfl aj rfl (fun K hK=>?_));
          ((refine dB 9 _ _ rfl G5 (.string k.co) Kc (⟨rfl,rfl⟩) nD (xC {s3 with Bx:=s.Bx} {kb with co:=k.co} (wx st bo (m,3,a1,a2))) ((one_set _ 12 _ (iG rfl) nC).trans (Qj _ _ _ _)) bg bg ?_;intro w6 bp6 xR WY hb6));
          (refine hidS hK (fU.grown xR aR) (fun fU=>?_);clear hK K);
          (try simp only[pt]);
          (refine tk 25 105 fU ?_);
          (refine tk 26 106 fU ?_);
          (refine tk 27 107 fU ?_);
          (refine tk 28 108 fU ?_);
          (refine aK 29 (oi:=⟨none,_,_,_,_,_⟩) rfl aj rfl (fun K hK=>?_));
          ((refine dB 54 _ _ rfl bp6 (s.Tr) Cb (uS HW3.out.kr.Tr) nD (xC {s3 with Bx:=s.Bx,Tr:=s.Tr} {kb with co:=k.co} (wx st bo (m,3,a1,a2))) ((one_set _ 13 _ (iG (jB HW3.out.kr.Tr)) nC).trans (Qi _ _ _ _)) bg bg ?_;intro w7 Hf vC Io oZ));
          (refine hidS hK (fU.grown vC aR) (fun fU=>?_);clear hK K);
          (try simp only[pt]);
          (refine tk 30 109 fU ?_);
          (refine tk 31 110 fU ?_);
          (refine tk 32 111 fU ?_);
          (refine tk 33 112 fU ?_);
          (refine aK 34 (oi:=⟨none,_,_,_,_,_⟩) rfl aj rfl (fun K hK=>?_));
          ((refine dB 55 _ _ rfl Hf (s.Se) Ko (uS HW3.out.kr.Se) nD (xC {s3 with Bx:=s.Bx,Tr:=s.Tr,Se:=s.Se} {kb with co:=k.co} (wx st bo (m,3,a1,a2))) ((one_set _ 14 _ (iG (jB HW3.out.kr.Se)) nC).trans (Qh _ _ _ _)) bg bg ?_;intro w8 Xb Ot OJ jU));
          (refine hidS hK (fU.grown Ot aR) (fun fU=>?_);clear hK K);
          (try simp only[pt]);
          (refine tk 35 113 fU ?_);
          (refine tk 36 114 fU ?_);
          (refine tk 37 115 fU ?_);
          (refine tk 38 116 fU ?_);
          (refine aK 39 (oi:=⟨none,_,_,_,_,_⟩) rfl aj rfl (fun K hK=>?_));
          ((refine dB 3 _ _ rfl Xb (.int .i64 k.want) Turn.j5 (⟨rfl,rfl⟩) nD (xC {s3 with Bx:=s.Bx,Tr:=s.Tr,Se:=s.Se} {kb with co:=k.co,want:=k.want} (wx st bo (m,3,a1,a2))) ((one_set _ 15 _ (iG rfl) nC).trans (Qg _ _ _ _)) bg bg ?_;intro w9 Bp lg Lm nK));
          (refine hidS hK (fU.grown lg aR) (fun fU=>?_);clear hK K);
          (try simp only[pt]);
          (refine lQ aj ?_))
 have T9:=Lib.hid Bp
 have LY:=Lib.hid (aA hg4 (aA (ay ((Below.refl w4.heap.size w4).drew) (some b)) (aA hg5 (aA xR (aA vC (aA Ot lg))))))
 clear hcb bn hlb hnb hmb hcl hfl hll hnl hml G5 bp6 Hf Xb Bp hg5 xR vC Ot lg
 obtain⟨hcb,bn,hlb,hnb,hmb⟩:=T9.out.rules
 have hkq:=rU HW3.out.kr (wx st bo (m,3,a1,a2))
 go_wp2_with fail
 refine dn ?_
 go_wp2_with fail
 have hrk:=HRK.out
 have hlw:=HW.out.box.lt
 have hGa:=aA LY.out (aM w9 b 18 (.int .i64 (wrap64 (bo+1))))
 have krA:=Ia.out.bL (ks:=sQ) (z8.out b ah) HW3.out.box hkq wL aB aB aB hGa
 have krB:=HW3.out.kr.bL (ks:=sQ) HW3.out.aw HW3.out.box hkq wL aB aB aB hGa
 have hfin:=aA (aA (ay (hd1.trans ((hb2.mono hz1).trans (hS.mono ah))) (some b)) LY.out) (aM w9 b 18 (.int .i64 (wrap64 (bo+1))))
 have hfa:∀B,B<w.heap.size→iL B s k→iL B {s3 with Bx:=s.Bx,bs:=s.bs,Tr:=s.Tr,Se:=s.Se} {kb with bx:=k.bx,co:=k.co,tr:=k.tr,se:=k.se,want:=k.want}:=fun B hB h=>by
  exact Ye
 have FD:lD w b s k (m,3,a1,a2) (rQ m k,st,wrap64 (bo+1)) (.returned (.tuple #[])) (w9.setCell ⟨b,18,none⟩ (.int .i64 (wrap64 (bo+1)))):=Yh
 exact bodyPost_end (v:= .tuple #[]) om rfl FD
end Go.Proofs.YtgmodehldmahiaaGreatDoor
end
section
namespace Go.Proofs.YtgmodehldmahiaaGreatDoor
open Go Go.RowKit Go.Tm
attribute [local go_sem] fB fA fu dR dA dQ dP dO dN dM dL dK dJ dI dH dG dF iq ig h_ g_ gZ gY gX gN gW gV fF fE fD fC eY eX eU
attribute [local go_sem] wz wM yY tK uR yX yV yU yT
theorem VE(w:World)(b:Nat)(s:Ks)(k:Kn)(st bo:Int)(m a0 a2:Int)(hw:SW w b s k st bo (m,a0,3,a2))(hg:k.gone=2)(hs:st≠3)(hf:oJ m k):
  Calls Tryz.prog 52 #[.pointer (some ⟨b,0,none⟩)] w (lD w b s k (m,a0,3,a2) (rQ m k,st,wrap64 (bo+1))):=by
 have HW:=Lib.hid hw
 obtain⟨hcb,bn,hlb,hnb,hmb⟩:=hw.box.rules
 have e2:(st==3)=false:=oh
 have HBO:=Lib.hid (fun W h1 h2 h3=>A_ m s.Im s.Ou s.In k.im k.ou k.ins k.now W h1 h2 h3 hf.fit hf.size hf.im hf.ou hf.ins)
 have HRK:=Lib.hid (show rQ m k={jk m k.im k.ou k.ins k.now with bx:=k.bx,co:=k.co,tr:=k.tr,se:=k.se,want:=k.want} from rfl)
 generalize jk m k.im k.ou k.ins k.now=kb at*
 clear hw hs
 go_enter Tryz.func52,Tryz.ntmps52
 go_wp2_with fail
 go_region
 go_upto_block 0 with fail
 ((have hd1:Below w.heap.size w w.drew:=(Below.refl _ _).drew);(generalize w.drew=w1 at hd1⊢))
 (refine bH ?_;refine bQ aB ?_;refine qV aB ?_;apply bR;(focus((apply bJ (hid:=by decide));go_wp2_with fail;exact⟨rfl,rfl,rfl⟩)))
 have h1:=HW.out.below hd1
 have HW1:=Lib.hid h1
 have hkv:=h1.kr.val
 have hcc:=wS h1.box
 clear hcb bn hlb hnb hmb
 obtain⟨hcb,bn,hlb,hnb,hmb⟩:=h1.box.rules
 clear h1
 go_wp2_with(first|((with_reducible refine bS 57 ?_);(refine aO rfl 57 _ rfl b (0) ?_ (.agg (kC s k)) eG (hkv) hcc ?_;(exact aG)))|((with_reducible refine bO 57 ?_);(refine aU rfl 57 _ _ rfl (kC s k) eG (hkv) aF ?_ ?_ ?_;(exact aG);(exact aG)))|fail)
 generalize bN:World.alloc _ _=w2
 have KL:Hid (aC w2 w1.heap.size (kC s k) 57):=Lib.hid PN
 have hb2:Below w1.heap.size w1 w2:=wh
 have HW2:=Lib.hid (HW1.out.below hb2)
 have hz2:=hb2.size
 have hz1:=hd1.size
 clear bN hcb bn hlb hnb hmb hcc
 obtain⟨hcb,bn,hlb,hnb,hmb⟩:=HW2.out.box.rules
 (obtain⟨hcl,hfl,hll,hnl,hml⟩:=aC.rules KL.out)
 ((refine aY (fun W=>Below w2.heap.size w2 W) (fun i=>decide (i<18)) aj ?_);
          (have hS:Below w2.heap.size w2 w2.drew:=(Below.refl _ _).drew);
          (refine tk 0 64 hS ?_);
          (refine tk 1 65 hS ?_);
          (refine tk 2 66 hS ?_);
          (refine tk 3 67 hS ?_);
          (refine tk 4 68 hS ?_);
          (refine tk 5 69 hS ?_ (hy:=Or.inl ⟨aF,rA⟩));
          (refine tk 6 70 hS ?_);
          (refine tk 7 71 hS ?_ (hy:=Or.inl ⟨aF,rA⟩));
          (refine tk 8 72 hS ?_);
          (refine tk 9 73 hS ?_ (hy:=Or.inl ⟨aF,rA⟩));
          (refine tk 10 74 hS ?_);
          (refine tk 11 75 hS ?_ (hy:=Or.inl ⟨aF,rA⟩));
          (refine tk 12 76 hS ?_);
          (refine tk 13 77 hS ?_ (hy:=Or.inl ⟨aF,rA⟩));
          (refine aK 14 (oi:=⟨some 78,_,_,_,_,_⟩) rfl aj rfl (fun K hK=>?_));
          (go_simp;(with_reducible refine(HBO.out _ (HW2.out.kr.Im.below hS) (HW2.out.kr.Ou.below hS) (HW2.out.kr.In.below hS)).mono ?_);rintro en w3 ⟨s3,rfl,qY,qH,hb3⟩;(have hS:=hS.trans (Below.mono hb3 hS.size));skip;(try go_wp2_with fail));
          (refine hK.out _ _ (fun _=>bF) ?_;clear hK K);
          (try simp only[pt]);
          (refine tk 15 79 hS ?_);
          (refine tk 16 80 hS ?_);
          (refine tk 17 81 hS ?_);
          (refine aT 18 aj ?_ rfl);
          (simp only[List.toList_toArray,List.drop_succ_cons,List.drop_zero]))
 have hz3:=hS.size
 have HW3:=Lib.hid (HW2.out.below hS)
 have KL3:=Lib.hid (KL.out.below hS KL.out.lt)
 have JE:=qY.val
 have abu:(xC s k (wx st bo (m,a0,3,a2))).size=23:=uO
 have ahP:=KL3.out.lt
 have Xt:b<w1.heap.size:=HW1.out.box.lt
 have Ia:=Lib.hid qY
 have z8:=Lib.hid (show∀B,B<w2.heap.size→iL B s3 kb from fun B hB=>qH B XV)
 clear hcb bn hlb hnb hmb hcl hfl hll hnl hml qH qY
 go_wp2_with(first|((with_reducible refine bO 57 ?_);(refine aN rfl 57 _ _ rfl HW3.out.box (.agg (kC s3 kb)) eG (JE) ?_ (_) (Fw s s3 k kb (wx st bo (m,a0,3,a2))) ?_ ?_ ?_;(exact fK);(exact aG);(exact aG);(intro w4 Oy hg4 vT hb4;(have T_:=Lib.hid Oy);(have KL4:=Lib.hid (KL3.out.grown hg4 aR)))))|fail)
 obtain⟨hcb,bn,hlb,hnb,hmb⟩:=T_.out.rules
 (obtain⟨hcl,hfl,hll,hnl,hml⟩:=aC.rules KL4.out)
 have hlL:w1.heap.size≠b:=ah
 ((refine aY (fun W=>aC W w1.heap.size (kC s k) 57) (fun i=>decide (i<40)) aj ?_);
          (have fU:(fun W=>aC W w1.heap.size (kC s k) 57) w4.drew:=KL4.out.drew);
          (refine tk 0 82 fU ?_);
          (refine tk 1 83 fU ?_);
          (refine tk 2 84 fU ?_);
          (refine tk 3 85 fU ?_);
          (refine tk 4 86 fU ?_);
          (refine tk 5 87 fU ?_);
          (refine tk 6 88 fU ?_ (hy:=Or.inl ⟨aF,rz⟩));
          (refine tk 7 89 fU ?_);
          (refine tk 8 90 fU ?_ (hy:=Or.inl ⟨aF,rz⟩));
          (refine tk 9 91 fU ?_);
          (refine tk 10 92 fU ?_ (hy:=Or.inl ⟨aF,rz⟩));
          (refine tk 11 93 fU ?_);
          (refine tk 12 94 fU ?_ (hy:=Or.inl ⟨aF,rz⟩));
          (refine tk 13 95 fU ?_);
          (refine tk 14 96 fU ?_ (hy:=Or.inl ⟨aF,rz⟩));
          (refine tk 15 97 fU ?_);
          (refine tk 16 98 fU ?_);
          (refine tk 17 99 fU ?_);
          (refine tk 18 100 fU ?_);
          (refine aK 19 (oi:=⟨none,_,_,_,_,_⟩) rfl aj rfl (fun K hK=>?_));
          ((refine dB 53 _ _ rfl T_.out.drew (s.Bx) FK (uS HW3.out.kr.Bx.sl) nD (xC {s3 with Bx:=s.Bx} kb (wx st bo (m,a0,3,a2))) ((one_set _ 11 _ (iG (jB HW3.out.kr.Bx.sl)) nC).trans (Qk _ _ _ _)) bg bg ?_;intro w5 G5 hg5 GY hb5));
          (refine hidS hK (fU.grown hg5 aR) (fun fU=>?_);clear hK K);
          (try simp only[pt]);
          (refine tk 20 101 fU ?_);
          (refine tk 21 102 fU ?_);
          (refine tk 22 103 fU ?_);
          (refine tk 23 104 fU ?_);
          (refine aK 24 (oi:=⟨none,_,_,_,_,_⟩) rfl aj rfl (fun K hK=>?_));
          ((refine dB 9 _ _ rfl G5 (.string k.co) Kc (⟨rfl,rfl⟩) nD (xC {s3 with Bx:=s.Bx} {kb with co:=k.co} (wx st bo (m,a0,3,a2))) ((one_set _ 12 _ (iG rfl) nC).trans (Qj _ _ _ _)) bg bg ?_;intro w6 bp6 xR WY hb6));
          (refine hidS hK (fU.grown xR aR) (fun fU=>?_);clear hK K);
          (try simp only[pt]);
          (refine tk 25 105 fU ?_);
          (refine tk 26 106 fU ?_);
          (refine tk 27 107 fU ?_);
          (refine tk 28 108 fU ?_);
          (refine aK 29 (oi:=⟨none,_,_,_,_,_⟩) rfl aj rfl (fun K hK=>?_));
          ((refine dB 54 _ _ rfl bp6 (s.Tr) Cb (uS HW3.out.kr.Tr) nD (xC {s3 with Bx:=s.Bx,Tr:=s.Tr} {kb with co:=k.co} (wx st bo (m,a0,3,a2))) ((one_set _ 13 _ (iG (jB HW3.out.kr.Tr)) nC).trans (Qi _ _ _ _)) bg bg ?_;intro w7 Hf vC Io oZ));
          (refine hidS hK (fU.grown vC aR) (fun fU=>?_);clear hK K);
          (try simp only[pt]);
          (refine tk 30 109 fU ?_);
          (refine tk 31 110 fU ?_);
          (refine tk 32 111 fU ?_);
          (refine tk 33 112 fU ?_);
          (refine aK 34 (oi:=⟨none,_,_,_,_,_⟩) rfl aj rfl (fun K hK=>?_));
          ((refine dB 55 _ _ rfl Hf (s.Se) Ko (uS HW3.out.kr.Se) nD (xC {s3 with Bx:=s.Bx,Tr:=s.Tr,Se:=s.Se} {kb with co:=k.co} (wx st bo (m,a0,3,a2))) ((one_set _ 14 _ (iG (jB HW3.out.kr.Se)) nC).trans (Qh _ _ _ _)) bg bg ?_;intro w8 Xb Ot OJ jU));
          (refine hidS hK (fU.grown Ot aR) (fun fU=>?_);clear hK K);
          (try simp only[pt]);
          (refine tk 35 113 fU ?_);
          (refine tk 36 114 fU ?_);
          (refine tk 37 115 fU ?_);
          (refine tk 38 116 fU ?_);
          (refine aK 39 (oi:=⟨none,_,_,_,_,_⟩) rfl aj rfl (fun K hK=>?_));
          ((refine dB 3 _ _ rfl Xb (.int .i64 k.want) Turn.j5 (⟨rfl,rfl⟩) nD (xC {s3 with Bx:=s.Bx,Tr:=s.Tr,Se:=s.Se} {kb with co:=k.co,want:=k.want} (wx st bo (m,a0,3,a2))) ((one_set _ 15 _ (iG rfl) nC).trans (Qg _ _ _ _)) bg bg ?_;intro w9 Bp lg Lm nK));
          (refine hidS hK (fU.grown lg aR) (fun fU=>?_);clear hK K);
          (try simp only[pt]);
          (refine lQ aj ?_))
 have T9:=Lib.hid Bp
 have LY:=Lib.hid (aA hg4 (aA (ay ((Below.refl w4.heap.size w4).drew) (some b)) (aA hg5 (aA xR (aA vC (aA Ot lg))))))
 clear hcb bn hlb hnb hmb hcl hfl hll hnl hml G5 bp6 Hf Xb Bp hg5 xR vC Ot lg
 obtain⟨hcb,bn,hlb,hnb,hmb⟩:=T9.out.rules
 have hkq:=rU HW3.out.kr (wx st bo (m,a0,3,a2))
 go_wp2_with fail
 refine dn ?_
 go_wp2_with fail
 have hrk:=HRK.out
 have hlw:=HW.out.box.lt
 have hGa:=aA LY.out (aM w9 b 18 (.int .i64 (wrap64 (bo+1))))
 have krA:=Ia.out.bL (ks:=sQ) (z8.out b ah) HW3.out.box hkq wL aB aB aB hGa
 have krB:=HW3.out.kr.bL (ks:=sQ) HW3.out.aw HW3.out.box hkq wL aB aB aB hGa
 have hfin:=aA (aA (ay (hd1.trans ((hb2.mono hz1).trans (hS.mono ah))) (some b)) LY.out) (aM w9 b 18 (.int .i64 (wrap64 (bo+1))))
 have hfa:∀B,B<w.heap.size→iL B s k→iL B {s3 with Bx:=s.Bx,bs:=s.bs,Tr:=s.Tr,Se:=s.Se} {kb with bx:=k.bx,co:=k.co,tr:=k.tr,se:=k.se,want:=k.want}:=fun B hB h=>by
  exact Ye
 have FD:lD w b s k (m,a0,3,a2) (rQ m k,st,wrap64 (bo+1)) (.returned (.tuple #[])) (w9.setCell ⟨b,18,none⟩ (.int .i64 (wrap64 (bo+1)))):=Yh
 exact bodyPost_end (v:= .tuple #[]) om rfl FD
end Go.Proofs.YtgmodehldmahiaaGreatDoor
end
section
namespace Go.Proofs.YtgmodehldmahiaaGreatDoor
open Go Go.RowKit Go.Tm
attribute [local go_sem] fB fA fu dR dA dQ dP dO dN dM dL dK dJ dI dH dG dF iq ig h_ g_ gZ gY gX gN gW gV fF fE fD fC eY eX eU
attribute [local go_sem] wz wM yY tK uR yX yV yU yT
theorem Vz(w:World)(b:Nat)(s:Ks)(k:Kn)(st bo:Int)(m a0 a1:Int)(hw:SW w b s k st bo (m,a0,a1,3))(hg:k.gone=3)(hs:st≠3)(hf:oJ m k):
  Calls Tryz.prog 52 #[.pointer (some ⟨b,0,none⟩)] w (lD w b s k (m,a0,a1,3) (rQ m k,st,wrap64 (bo+1))):=by
 have HW:=Lib.hid hw
 obtain⟨hcb,bn,hlb,hnb,hmb⟩:=hw.box.rules
 have e2:(st==3)=false:=oh
 have HBO:=Lib.hid (fun W h1 h2 h3=>A_ m s.Im s.Ou s.In k.im k.ou k.ins k.now W h1 h2 h3 hf.fit hf.size hf.im hf.ou hf.ins)
 have HRK:=Lib.hid (show rQ m k={jk m k.im k.ou k.ins k.now with bx:=k.bx,co:=k.co,tr:=k.tr,se:=k.se,want:=k.want} from rfl)
 generalize jk m k.im k.ou k.ins k.now=kb at*
 clear hw hs
 go_enter Tryz.func52,Tryz.ntmps52
 go_wp2_with fail
 go_region
 go_upto_block 0 with fail
 ((have hd1:Below w.heap.size w w.drew:=(Below.refl _ _).drew);(generalize w.drew=w1 at hd1⊢))
 (refine bH ?_;refine bQ aB ?_;refine qV aB ?_;apply bR;(focus((apply bJ (hid:=by decide));go_wp2_with fail;exact⟨rfl,rfl,rfl⟩)))
 have h1:=HW.out.below hd1
 have HW1:=Lib.hid h1
 have hkv:=h1.kr.val
 have hcc:=wS h1.box
 clear hcb bn hlb hnb hmb
 obtain⟨hcb,bn,hlb,hnb,hmb⟩:=h1.box.rules
 clear h1
 go_wp2_with(first|((with_reducible refine bS 57 ?_);(refine aO rfl 57 _ rfl b (0) ?_ (.agg (kC s k)) eG (hkv) hcc ?_;(exact aG)))|((with_reducible refine bO 57 ?_);(refine aU rfl 57 _ _ rfl (kC s k) eG (hkv) aF ?_ ?_ ?_;(exact aG);(exact aG)))|fail)
 generalize bN:World.alloc _ _=w2
 have KL:Hid (aC w2 w1.heap.size (kC s k) 57):=Lib.hid PN
 have hb2:Below w1.heap.size w1 w2:=wh
 have HW2:=Lib.hid (HW1.out.below hb2)
 have hz2:=hb2.size
 have hz1:=hd1.size
 clear bN hcb bn hlb hnb hmb hcc
 obtain⟨hcb,bn,hlb,hnb,hmb⟩:=HW2.out.box.rules
 (obtain⟨hcl,hfl,hll,hnl,hml⟩:=aC.rules KL.out)
 ((refine aY (fun W=>Below w2.heap.size w2 W) (fun i=>decide (i<18)) aj ?_);
          (have hS:Below w2.heap.size w2 w2.drew:=(Below.refl _ _).drew);
          (refine tk 0 64 hS ?_);
          (refine tk 1 65 hS ?_);
          (refine tk 2 66 hS ?_);
          (refine tk 3 67 hS ?_);
          (refine tk 4 68 hS ?_);
          (refine tk 5 69 hS ?_ (hy:=Or.inl ⟨aF,rA⟩));
          (refine tk 6 70 hS ?_);
          (refine tk 7 71 hS ?_ (hy:=Or.inl ⟨aF,rA⟩));
          (refine tk 8 72 hS ?_);
          (refine tk 9 73 hS ?_ (hy:=Or.inl ⟨aF,rA⟩));
          (refine tk 10 74 hS ?_);
          (refine tk 11 75 hS ?_ (hy:=Or.inl ⟨aF,rA⟩));
          (refine tk 12 76 hS ?_);
          (refine tk 13 77 hS ?_ (hy:=Or.inl ⟨aF,rA⟩));
          (refine aK 14 (oi:=⟨some 78,_,_,_,_,_⟩) rfl aj rfl (fun K hK=>?_));
          (go_simp;(with_reducible refine(HBO.out _ (HW2.out.kr.Im.below hS) (HW2.out.kr.Ou.below hS) (HW2.out.kr.In.below hS)).mono ?_);rintro en w3 ⟨s3,rfl,qY,qH,hb3⟩;(have hS:=hS.trans (Below.mono hb3 hS.size));skip;(try go_wp2_with fail));
          (refine hK.out _ _ (fun _=>bF) ?_;clear hK K);
          (try simp only[pt]);
          (refine tk 15 79 hS ?_);
          (refine tk 16 80 hS ?_);
          (refine tk 17 81 hS ?_);
          (refine aT 18 aj ?_ rfl);
          (simp only[List.toList_toArray,List.drop_succ_cons,List.drop_zero]))
 have hz3:=hS.size
 have HW3:=Lib.hid (HW2.out.below hS)
 have KL3:=Lib.hid (KL.out.below hS KL.out.lt)
 have JE:=qY.val
 have abu:(xC s k (wx st bo (m,a0,a1,3))).size=23:=uO
 have ahP:=KL3.out.lt
 have Xt:b<w1.heap.size:=HW1.out.box.lt
 have Ia:=Lib.hid qY
 have z8:=Lib.hid (show∀B,B<w2.heap.size→iL B s3 kb from fun B hB=>qH B XV)
 clear hcb bn hlb hnb hmb hcl hfl hll hnl hml qH qY
 go_wp2_with(first|((with_reducible refine bO 57 ?_);(refine aN rfl 57 _ _ rfl HW3.out.box (.agg (kC s3 kb)) eG (JE) ?_ (_) (Fw s s3 k kb (wx st bo (m,a0,a1,3))) ?_ ?_ ?_;(exact fK);(exact aG);(exact aG);(intro w4 Oy hg4 vT hb4;(have T_:=Lib.hid Oy);(have KL4:=Lib.hid (KL3.out.grown hg4 aR)))))|fail)
 obtain⟨hcb,bn,hlb,hnb,hmb⟩:=T_.out.rules
 (obtain⟨hcl,hfl,hll,hnl,hml⟩:=aC.rules KL4.out)
 have hlL:w1.heap.size≠b:=ah
 ((refine aY (fun W=>aC W w1.heap.size (kC s k) 57) (fun i=>decide (i<40)) aj ?_);
          (have fU:(fun W=>aC W w1.heap.size (kC s k) 57) w4.drew:=KL4.out.drew);
          (refine tk 0 82 fU ?_);
          (refine tk 1 83 fU ?_);
          (refine tk 2 84 fU ?_);
          (refine tk 3 85 fU ?_);
          (refine tk 4 86 fU ?_);
          (refine tk 5 87 fU ?_);
          (refine tk 6 88 fU ?_ (hy:=Or.inl ⟨aF,rz⟩));
          (refine tk 7 89 fU ?_);
          (refine tk 8 90 fU ?_ (hy:=Or.inl ⟨aF,rz⟩));
          (refine tk 9 91 fU ?_);
          (refine tk 10 92 fU ?_ (hy:=Or.inl ⟨aF,rz⟩));
          (refine tk 11 93 fU ?_);
          (refine tk 12 94 fU ?_ (hy:=Or.inl ⟨aF,rz⟩));
          (refine tk 13 95 fU ?_);
          (refine tk 14 96 fU ?_ (hy:=Or.inl ⟨aF,rz⟩));
          (refine tk 15 97 fU ?_);
          (refine tk 16 98 fU ?_);
          (refine tk 17 99 fU ?_);
          (refine tk 18 100 fU ?_);
          (refine aK 19 (oi:=⟨none,_,_,_,_,_⟩) rfl aj rfl (fun K hK=>?_));
          ((refine dB 53 _ _ rfl T_.out.drew (s.Bx) FK (uS HW3.out.kr.Bx.sl) nD (xC {s3 with Bx:=s.Bx} kb (wx st bo (m,a0,a1,3))) ((one_set _ 11 _ (iG (jB HW3.out.kr.Bx.sl)) nC).trans (Qk _ _ _ _)) bg bg ?_;intro w5 G5 hg5 GY hb5));
          (refine hidS hK (fU.grown hg5 aR) (fun fU=>?_);clear hK K);
          (try simp only[pt]);
          (refine tk 20 101 fU ?_);
          (refine tk 21 102 fU ?_);
          (refine tk 22 103 fU ?_);
          (refine tk 23 104 fU ?_);
          (refine aK 24 (oi:=⟨none,_,_,_,_,_⟩) rfl aj rfl (fun K hK=>?_));
          ((refine dB 9 _ _ rfl G5 (.string k.co) Kc (⟨rfl,rfl⟩) nD (xC {s3 with Bx:=s.Bx} {kb with co:=k.co} (wx st bo (m,a0,a1,3))) ((one_set _ 12 _ (iG rfl) nC).trans (Qj _ _ _ _)) bg bg ?_;intro w6 bp6 xR WY hb6));
          (refine hidS hK (fU.grown xR aR) (fun fU=>?_);clear hK K);
          (try simp only[pt]);
          (refine tk 25 105 fU ?_);
          (refine tk 26 106 fU ?_);
          (refine tk 27 107 fU ?_);
          (refine tk 28 108 fU ?_);
          (refine aK 29 (oi:=⟨none,_,_,_,_,_⟩) rfl aj rfl (fun K hK=>?_));
          ((refine dB 54 _ _ rfl bp6 (s.Tr) Cb (uS HW3.out.kr.Tr) nD (xC {s3 with Bx:=s.Bx,Tr:=s.Tr} {kb with co:=k.co} (wx st bo (m,a0,a1,3))) ((one_set _ 13 _ (iG (jB HW3.out.kr.Tr)) nC).trans (Qi _ _ _ _)) bg bg ?_;intro w7 Hf vC Io oZ));
          (refine hidS hK (fU.grown vC aR) (fun fU=>?_);clear hK K);
          (try simp only[pt]);
          (refine tk 30 109 fU ?_);
          (refine tk 31 110 fU ?_);
          (refine tk 32 111 fU ?_);
          (refine tk 33 112 fU ?_);
          (refine aK 34 (oi:=⟨none,_,_,_,_,_⟩) rfl aj rfl (fun K hK=>?_));
          ((refine dB 55 _ _ rfl Hf (s.Se) Ko (uS HW3.out.kr.Se) nD (xC {s3 with Bx:=s.Bx,Tr:=s.Tr,Se:=s.Se} {kb with co:=k.co} (wx st bo (m,a0,a1,3))) ((one_set _ 14 _ (iG (jB HW3.out.kr.Se)) nC).trans (Qh _ _ _ _)) bg bg ?_;intro w8 Xb Ot OJ jU));
          (refine hidS hK (fU.grown Ot aR) (fun fU=>?_);clear hK K);
          (try simp only[pt]);
          (refine tk 35 113 fU ?_);
          (refine tk 36 114 fU ?_);
          (refine tk 37 115 fU ?_);
          (refine tk 38 116 fU ?_);
          (refine aK 39 (oi:=⟨none,_,_,_,_,_⟩) rfl aj rfl (fun K hK=>?_));
          ((refine dB 3 _ _ rfl Xb (.int .i64 k.want) Turn.j5 (⟨rfl,rfl⟩) nD (xC {s3 with Bx:=s.Bx,Tr:=s.Tr,Se:=s.Se} {kb with co:=k.co,want:=k.want} (wx st bo (m,a0,a1,3))) ((one_set _ 15 _ (iG rfl) nC).trans (Qg _ _ _ _)) bg bg ?_;intro w9 Bp lg Lm nK));
          (refine hidS hK (fU.grown lg aR) (fun fU=>?_);clear hK K);
          (try simp only[pt]);
          (refine lQ aj ?_))
 have T9:=Lib.hid Bp
 have LY:=Lib.hid (aA hg4 (aA (ay ((Below.refl w4.heap.size w4).drew) (some b)) (aA hg5 (aA xR (aA vC (aA Ot lg))))))
 clear hcb bn hlb hnb hmb hcl hfl hll hnl hml G5 bp6 Hf Xb Bp hg5 xR vC Ot lg
 obtain⟨hcb,bn,hlb,hnb,hmb⟩:=T9.out.rules
 have hkq:=rU HW3.out.kr (wx st bo (m,a0,a1,3))
 go_wp2_with fail
 refine dn ?_
 go_wp2_with fail
 have hrk:=HRK.out
 have hlw:=HW.out.box.lt
 have hGa:=aA LY.out (aM w9 b 18 (.int .i64 (wrap64 (bo+1))))
 have krA:=Ia.out.bL (ks:=sQ) (z8.out b ah) HW3.out.box hkq wL aB aB aB hGa
 have krB:=HW3.out.kr.bL (ks:=sQ) HW3.out.aw HW3.out.box hkq wL aB aB aB hGa
 have hfin:=aA (aA (ay (hd1.trans ((hb2.mono hz1).trans (hS.mono ah))) (some b)) LY.out) (aM w9 b 18 (.int .i64 (wrap64 (bo+1))))
 have hfa:∀B,B<w.heap.size→iL B s k→iL B {s3 with Bx:=s.Bx,bs:=s.bs,Tr:=s.Tr,Se:=s.Se} {kb with bx:=k.bx,co:=k.co,tr:=k.tr,se:=k.se,want:=k.want}:=fun B hB h=>by
  exact Ye
 have FD:lD w b s k (m,a0,a1,3) (rQ m k,st,wrap64 (bo+1)) (.returned (.tuple #[])) (w9.setCell ⟨b,18,none⟩ (.int .i64 (wrap64 (bo+1)))):=Yh
 exact bodyPost_end (v:= .tuple #[]) om rfl FD
end Go.Proofs.YtgmodehldmahiaaGreatDoor
end
section
namespace Go.Proofs.YtgmodehldmahiaaGreatDoor
open Go Go.RowKit Go.Tm
theorem xH(w:World)(b:Nat)(s:Ks)(k:Kn)(st bo:Int)(x:DN)(hw:SW w b s k st bo x)(hf:k.gone≠0→H9 x k.gone=3→oJ x.1 k):
  Calls Tryz.prog 52 #[.pointer (some ⟨b,0,none⟩)] w (lD w b s k x (dU x k st bo)):=by
 unfold dU
 by_cases h0:k.gone=0∨st=3
 ·rw[if_pos h0];exact Rj w b s k st bo x hw h0
 rw[if_neg h0]
 have hg0:k.gone≠0:=fun h=>h0 (.inl h)
 have hs:st≠3:=fun h=>h0 (.inr h)
 replace hf:=hf hg0
 obtain⟨m,a0,a1,a2⟩:=x
 unfold H9 at*
 dsimp only at*
 by_cases g1:k.gone=1
 ·rw[if_pos g1] at*
  by_cases c2:a0=2
  ·rw[if_pos c2];subst c2;exact VJ w b s k st bo m a1 a2 hw g1 hs
  rw[if_neg c2]
  by_cases c3:a0=3
  ·rw[if_pos c3];subst c3;exact VI w b s k st bo m a1 a2 hw g1 hs (hf rfl)
  rw[if_neg c3]
  by_cases c1:a0=1
  ·subst c1;exact VK w b s k st bo m a1 a2 hw g1 hs
  ·exact VH w b s k st bo m a0 a1 a2 hw g1 hs c2 c3 c1
 rw[if_neg g1] at*
 by_cases g2:k.gone=2
 ·rw[if_pos g2] at*
  by_cases c2:a1=2
  ·rw[if_pos c2];subst c2;exact VF w b s k st bo m a0 a2 hw g2 hs
  rw[if_neg c2]
  by_cases c3:a1=3
  ·rw[if_pos c3];subst c3;exact VE w b s k st bo m a0 a2 hw g2 hs (hf rfl)
  rw[if_neg c3]
  by_cases c1:a1=1
  ·subst c1;exact VG w b s k st bo m a0 a2 hw g2 hs
  ·exact VD w b s k st bo m a0 a1 a2 hw g2 hs c2 c3 c1
 rw[if_neg g2] at*
 by_cases g3:k.gone=3
 ·rw[if_pos g3] at*
  by_cases c2:a2=2
  ·rw[if_pos c2];subst c2;exact VA w b s k st bo m a0 a1 hw g3 hs
  rw[if_neg c2]
  by_cases c3:a2=3
  ·rw[if_pos c3];subst c3;exact Vz w b s k st bo m a0 a1 hw g3 hs (hf rfl)
  rw[if_neg c3]
  by_cases c1:a2=1
  ·subst c1;exact VB w b s k st bo m a0 a1 hw g3 hs
  ·exact Vy w b s k st bo m a0 a1 a2 hw g3 hs c2 c3 c1
 rw[if_neg g3,if_neg aB,if_neg aB]
 exact acr w b s k st bo m a0 a1 a2 hw hg0 ah hs
end Go.Proofs.YtgmodehldmahiaaGreatDoor
end
