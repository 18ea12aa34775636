/- Part 37 of 50 of the proof of topWindows_holds. Conditions: see each. -/
import Derived.Test.YtgmodehldmahiaaGreatDoorW14
import Derived.Test.YtgmodehldmahiaaGreatDoorW36
set_option linter.unusedVariables false
set_option linter.unusedSimpArgs false
set_option maxRecDepth 8192
set_option maxHeartbeats 40000000
section
namespace Go.Proofs.YtgmodehldmahiaaGreatDoor
open Go Go.RowKit Go.Tm
@[irreducible] def xC(s:Ks)(k:Kn)(ex:Array Value):Array Value:=kC s k++ex
theorem oP(s:Ks)(k:Kn)(ex:Array Value):xC s k ex=kC s k++ex:=by unfold xC;rfl
theorem jW(s:Ks)(k:Kn)(ex:Array Value):(xC s k ex).size=17+ex.size:=by rw[oP,Array.size_append,jX]
theorem Ac(s:Ks)(k:Kn)(ex:Array Value){i:Nat}(h:i<17):(xC s k ex)[i]?=(kC s k)[i]?:=by
 rw[oP,Array.getElem?_append_left (by rw[jX];exact h)]
theorem C8(s:Ks)(k:Kn)(ex:Array Value)(j:Nat):(xC s k ex)[17+j]?=ex[j]?:=by
 rw[oP,Array.getElem?_append_right PD,jX]
 congr 1
 omega
theorem BR(s:Ks)(k:Kn)(ex:Array Value)(j:Nat)(v:Value):(xC s k ex).setIfInBounds (17+j) v=xC s k (ex.setIfInBounds j v):=by
 apply Array.ext_getElem?
 intro i
 rw[Array.getElem?_setIfInBounds]
 by_cases h:i<17
 ·rw[if_neg ah,Ac s k _ h,Ac s k _ h]
 ·obtain⟨n,rfl⟩:∃n,i=17+n:=⟨i-17,ah⟩
  rw[C8,C8,Array.getElem?_setIfInBounds]
  by_cases hj:j=n
  ·subst hj
   simp only[if_true,jW]
   by_cases hs:j<ex.size
   ·rw[if_pos ah,if_pos hs]
   ·rw[if_neg ah,if_neg hs]
  ·rw[if_neg ah,if_neg hj]
theorem Fw(s s':Ks)(k k':Kn)(ex:Array Value):((xC s k ex).toList.take 0++(Value.agg (kC s' k')).cells.toList++(xC s k ex).toList.drop (0+17)).toArray=xC s' k' ex:=by
 rw[oP,oP]
 apply Array.ext'
 simp only[List.take_zero,List.nil_append,Nat.zero_add,Array.toList_append]
 rw[List.drop_left' (by rw[Array.length_toList,jX])]
 rfl
theorem agu{W:World}{s:Ks}{k:Kn}(h:KR W s k)(ex:Array Value)(he:∀x∈ex.toList,x.oneCell'=true):Val true (17+ex.size) (.agg (xC s k ex)):=⟨_,rfl,jW s k ex,by
 obtain⟨cs,hc,_,h1⟩:=h.val
 cases hc
 rw[oP,Array.toList_append]
 intro x hx
 rcases List.mem_append.1 hx with hx|hx
 ·exact h1 x hx
 ·exact he x hx⟩
theorem wS{W:World}{b:Nat}{s:Ks}{k:Kn}{ex:Array Value}{t:TypeId}(h:aC W b (xC s k ex) t):Cells W b 0 (Value.agg (kC s k)).cells.toList:=fun j v hv=>by
 have hj:j<17:=by
  have:=(List.getElem?_eq_some_iff.1 hv).1
  rw[show(Value.agg (kC s k)).cells=kC s k from rfl,Array.length_toList,jX] at this
  exact this
 rw[h.rules.1,Nat.zero_add,Ac s k ex hj]
 rw[show(Value.agg (kC s k)).cells=kC s k from rfl,Array.getElem?_toList] at hv
 exact hv
theorem wz(s:Ks)(k:Kn)(ex:Array Value):(xC s k ex)[7]?=some (.int .u64 k.now):=by rw[Ac s k ex aB,gN]
theorem wM(s:Ks)(k:Kn)(ex:Array Value):(xC s k ex)[15]?=some (.int .i64 k.want):=by rw[Ac s k ex aB,eX]
theorem yY(s:Ks)(k:Kn)(ex:Array Value):(xC s k ex)[16]?=some (.int .i64 k.gone):=by rw[Ac s k ex aB,eU]
theorem tK(s:Ks)(k:Kn)(ex:Array Value):(xC s k ex)[17]?=ex[0]?:=C8 s k ex 0
theorem uR(s:Ks)(k:Kn)(ex:Array Value):(xC s k ex)[18]?=ex[1]?:=C8 s k ex 1
theorem yX(s:Ks)(k:Kn)(ex:Array Value):(xC s k ex)[19]?=ex[2]?:=C8 s k ex 2
theorem yV(s:Ks)(k:Kn)(ex:Array Value):(xC s k ex)[20]?=ex[3]?:=C8 s k ex 3
theorem yU(s:Ks)(k:Kn)(ex:Array Value):(xC s k ex)[21]?=ex[4]?:=C8 s k ex 4
theorem yT(s:Ks)(k:Kn)(ex:Array Value):(xC s k ex)[22]?=ex[5]?:=C8 s k ex 5
theorem yS(s:Ks)(k:Kn)(ex:Array Value)(v:Value):(xC s k ex).setIfInBounds 17 v=xC s k (ex.setIfInBounds 0 v):=BR s k ex 0 v
theorem Qf(s:Ks)(k:Kn)(ex:Array Value)(v:Value):(xC s k ex).setIfInBounds 18 v=xC s k (ex.setIfInBounds 1 v):=BR s k ex 1 v
attribute [local go_sem] wz wM yY tK uR yX yV yU yT
abbrev sx(st bo:Int):Array Value:=#[.int .i64 st,.int .i64 bo]
abbrev iM(s:Ks)(k:Kn)(st bo:Int):Value:= .agg (xC s k (sx st bo))
theorem eF:Ty Tryz.prog 59 19 true:=⟨aj,aj,aB,aj⟩
theorem jM{W:World}{s:Ks}{k:Kn}(h:KR W s k)(st bo:Int):Val true 19 (iM s k st bo):=agu h (sx st bo) (by intro x hx;simp at hx;rcases hx with rfl|rfl<;>rfl)
def uZ:List Nat:=lu++[1,1]
def FH(w:World)(s:Ks)(k:Kn)(k':Kn)(st bo:Int)(e:Ending)(w':World):Prop:=
 ∃s',e=.returned (iM s' k' st bo)∧KR w' s' k'∧(∀B,B<w.heap.size→iL B s k→iL B s' k')∧Below w.heap.size w w'
theorem Cn(s:Ks)(k:Kn)(st bo:Int)(w:World):Calls Tryz.prog 38 #[iM s k st bo] w fun e w'=>e=.returned (.bool (st==1))∧Below w.heap.size w w':=by
 go_enter Tryz.func38,Tryz.ntmps38
 exact mU
theorem gJ{z c:Array Value}(n:Nat)(hz:z.size=n)(x:Unit):(z.toList.take 0++(Value.agg c).cells.toList++z.toList.drop (0+n)).toArray=c:=by
 rw[List.drop_eq_nil_of_le E8]
 simp[Value.cells]
def GX:Array Value:=#[.slice none 0 0,.slice none 0 0,.int .i64 0,.slice none 0 0,.slice none 0 0,.int .i64 0,.slice none 0 0,.int .u64 0,.slice none 0 0,.slice none 0 0,.slice none 0 0,.slice none 0 0,.string {data:=#[]},.slice none 0 0,.slice none 0 0,.int .i64 0,.int .i64 0,.int .i64 0,.int .i64 0]
theorem pY:GX.size=19:=rfl
theorem NI(s:Ks)(k:Kn)(st bo:Int)(w:World)(hr:KR w s k):Calls Tryz.prog 36 #[iM s k st bo] w (FH w s k k (if st=2 then 1 else st) bo):=by
 have HR:=Lib.hid hr
 obtain⟨st2,hst⟩:∃st2,st2=if st=2 then 1 else st:=⟨_,rfl⟩
 rw[←hst]
 have hv:=jM hr st2 bo
 have hk0:GX.size=19:=rfl
 clear hr
 by_cases h2:st=2
 ·rw[if_pos h2] at hst
  subst h2
  go_enter Tryz.func36,Tryz.ntmps36
  go_upto_if 5 with fail
  ((generalize bN:World.alloc _ _=w0);(have KB:aC w0 (w.heap.size) (xC s k (sx 2 bo)) 59:=bA);(have KZ:aC w0 (w.heap.size+1) (GX) 59:=bA);(have hb0:Below w.heap.size w w0:=bM);(have hz0:w0.heap.size=w.heap.size+1+1:=bX);(clear bN);(have KB:=Lib.hid KB);(have KZ:=Lib.hid KZ))
  (obtain⟨hcb,bn,hlb,hnb,hmb⟩:=aC.rules KB.out)
  have ajc:=hcb 17
  go_wp2_with(first|((with_reducible refine bS 59 ?_);(generalize bN:World.setCell _ _ _=w3);(have G7:aC w3 w.heap.size (xC s k (sx st2 bo)) 59:=(by rw[←bN,hst];exact(KB.out.set 17 _).cast (yS s k _ _)));(have Jw:=Lib.hid (show aC w3 (w.heap.size+1) GX 59 from by rw[←bN];exact KZ.out.other _ _ aI));(have hb3:Below w.heap.size w w3:=bM);(have HB3:=Lib.hid G7);(have Ud:=jW s k (sx st2 bo));(clear bN G7 hcb bn ajc);(refine aJ rfl 59 _ rfl (xC s k (sx st2 bo)) eF hv HB3.out ?_ ?_;(exact aG)))|((with_reducible refine bO 59 ?_);(refine aN rfl 59 _ _ rfl Jw.out (iM s k st2 bo) eF (hv) ?_ (_) (gJ 19 pY ()) ?_ ?_ ?_;(exact fK);(exact aG);(exact aG);(intro GR jD jT tq eP;(have kY:=Lib.hid jD))))|fail)
  have hfr:=(HR.out.below hb3).bL (R:=w.heap.size+1) (ks:=uZ) (HR.out.away ah) Jw.out rfl aB aB aB aB jT
  exact iP Tryz.results36 eF hv aF kY.out rfl ⟨s,rfl,hfr,fun _ _ h=>h,hb3.trans (eP.mono ah)⟩
 ·have e2:(st==2)=false:=by simp[h2]
  rw[if_neg h2] at hst
  subst hst
  go_enter Tryz.func36,Tryz.ntmps36
  go_upto_if 5 with fail
  ((generalize bN:World.alloc _ _=w0);(have KB:aC w0 (w.heap.size) (xC s k (sx st2 bo)) 59:=bA);(have KZ:aC w0 (w.heap.size+1) (GX) 59:=bA);(have hb0:Below w.heap.size w w0:=bM);(have hz0:w0.heap.size=w.heap.size+1+1:=bX);(clear bN);(have KB:=Lib.hid KB);(have KZ:=Lib.hid KZ))
  (obtain⟨hcb,bn,hlb,hnb,hmb⟩:=aC.rules KB.out)
  have Ud:=jW s k (sx st2 bo)
  go_wp2_with(first|((with_reducible refine bS 59 ?_);(refine aJ rfl 59 _ rfl (xC s k (sx st2 bo)) eF (hv) KB.out ?_ ?_;(exact aG)))|((with_reducible refine bO 59 ?_);(refine aN rfl 59 _ _ rfl KZ.out (iM s k st2 bo) eF (hv) ?_ (_) (gJ 19 pY ()) ?_ ?_ ?_;(exact fK);(exact aG);(exact aG);(intro GR jD jT tq eP;(have kY:=Lib.hid jD))))|fail)
  have hfr:=(HR.out.below hb0).bL (R:=w.heap.size+1) (ks:=uZ) (HR.out.away ah) KZ.out rfl aB aB aB aB jT
  exact iP Tryz.results36 eF hv aF kY.out rfl ⟨s,rfl,hfr,fun _ _ h=>h,hb0.trans (eP.mono ah)⟩
theorem rU{W:World}{s:Ks}{k:Kn}(h:KR W s k)(ex:Array Value):(xC s k ex).toList.map kind=lu++ex.toList.map kind:=by
 rw[oP,Array.toList_append,List.map_append,h.kinds]
theorem KR.aiS{W W':World}{R:Nat}{s s0:Ks}{k k0:Kn}{st bo:Int}{t:TypeId}{w0:World}(h:KR W s k)(ha:iL R s k)(h0:KR w0 s0 k0)(hb:aC W R (xC s0 k0 (sx st bo)) t)(hg:W.grownBy W' (some R)):KR W' s k:=
 h.bL (ks:=uZ) ha hb (rU h0 _) (by rw[jW];show 17+2<26;decide) aB aB aB hg
theorem Oj(s:Ks)(k:Kn)(st bo n:Int)(body:ByteArray)(w:World)(hr:KR w s k)(hk:Fit k)(CU:body.size≤9223372036854775807):
  Calls Tryz.prog 82 #[iM s k st bo,.int .i64 n,.string body] w (FH w s k (ji k n body k.now) st bo):=by
 have HR:=Lib.hid hr
 have HA:=Lib.hid (fun W h=>RU s k n body k.now W h hk CU)
 generalize ji k n body k.now=k3 at*
 have hk0:GX.size=19:=rfl
 have hkv:=hr.val
 clear hr
 go_enter Tryz.func82,Tryz.ntmps82
 have hbx:=aC.new w (xC s k (sx st bo)) 59
 have hcc:=wS (hbx.alloc (.cells GX 59))
 go_wp2_with(first|((with_reducible refine bS 57 ?_);(refine aO rfl 57 _ rfl w.heap.size (0) ?_ (.agg (kC s k)) eG (hkv) hcc ?_;(exact aG)))|fail)
 ((generalize bN:World.alloc _ _=w0);(have KB:aC w0 (w.heap.size) (xC s k (sx st bo)) 59:=bA);(have KZ:aC w0 (w.heap.size+1) (GX) 59:=bA);(have hb0:Below w.heap.size w w0:=bM);(have hz0:w0.heap.size=w.heap.size+1+1:=bX);(clear bN);(have KB:=Lib.hid KB);(have KZ:=Lib.hid KZ))
 clear hbx hcc
 with_reducible refine(HA.out w0 (HR.out.below hb0)).mono ?_
 rintro en w3 ⟨s3,rfl,qY,qH,hb3⟩
 have KR3:=Lib.hid qY
 have JE:=qY.val
 have hz3:=hb3.size
 have sF:w.heap.size+1+1≤w0.heap.size:=ah
 clear hz0
 have G7:=Lib.hid (KB.out.below hb3 KB.out.lt)
 have Jw:=Lib.hid (KZ.out.below hb3 KZ.out.lt)
 have hv3:=jM qY st bo
 have OZ:=Lib.hid qH
 have ak_:=jW s k (sx st bo)
 have Ud:=jW s3 k3 (sx st bo)
 have hsx:(sx st bo).size=2:=rfl
 clear qY qH
 go_wp2_with(first|((with_reducible refine bO 57 ?_);(refine aN rfl 57 _ _ rfl G7.out (.agg (kC s3 k3)) eG (JE) ?_ (_) (Fw s s3 k k3 (sx st bo)) ?_ ?_ ?_;(exact fK);(exact aG);(exact aG);(intro w4 Oy hg4 vT hb4;(have T_:=Lib.hid Oy);(have Iw:=Lib.hid (Jw.out.grown hg4 aI)))))|((with_reducible refine bS 59 ?_);(refine aJ rfl 59 _ rfl (xC s3 k3 (sx st bo)) eF (hv3) T_.out ?_ ?_;(exact aG)))|((with_reducible refine bO 59 ?_);(refine aN rfl 59 _ _ rfl Iw.out (iM s3 k3 st bo) eF (hv3) ?_ (_) (gJ 19 pY ()) ?_ ?_ ?_;(exact fK);(exact aG);(exact aG);(intro GR jD jT tq eP;(have kY:=Lib.hid jD))))|fail)
 have hk4:=KR3.out.aiS (OZ.out w.heap.size ah (HR.out.away (Nat.le_refl _))) HR.out G7.out hg4
 have hfr:=hk4.bL (R:=w.heap.size+1) (ks:=uZ) (OZ.out (w.heap.size+1) ah (HR.out.away ah)) Iw.out rfl aB aB aB aB jT
 exact iP Tryz.results82 eF hv3 aF kY.out rfl ⟨s3,rfl,hfr,fun B hB h=>OZ.out B ah h,hb0.trans ((hb3.mono ah).trans (hb4.trans (eP.mono ah)))⟩
end Go.Proofs.YtgmodehldmahiaaGreatDoor
end
section
namespace Go.Proofs.YtgmodehldmahiaaGreatDoor
open Go Go.RowKit Go.Tm
attribute [local go_sem] wz wM yY tK uR yX yV yU yT
abbrev DN:=Int×Int×Int×Int
abbrev EK(x:DN):Value:= .agg #[.int .i64 x.1,.int .i64 x.2.1,.int .i64 x.2.2.1,.int .i64 x.2.2.2]
abbrev wx(st bo:Int)(x:DN):Array Value:=#[.int .i64 st,.int .i64 bo,.int .i64 x.1,.int .i64 x.2.1,.int .i64 x.2.2.1,.int .i64 x.2.2.2]
structure SW(w:World)(b:Nat)(s:Ks)(k:Kn)(st bo:Int)(x:DN):Prop where
 box:aC w b (xC s k (wx st bo x)) 113
 kr:KR w s k
 aw:iL b s k
noncomputable def rQ(mem:Int)(k:Kn):Kn:={jk mem k.im k.ou k.ins k.now with bx:=k.bx,co:=k.co,tr:=k.tr,se:=k.se,want:=k.want}
def H9(x:DN)(g:Int):Int:=if g=1 then x.2.1 else if g=2 then x.2.2.1 else if g=3 then x.2.2.2 else 0
noncomputable def dU(x:DN)(k:Kn)(st bo:Int):Kn×Int×Int:=
 if k.gone=0∨st=3 then(k,st,bo)
 else if H9 x k.gone=2 then(k,3,bo)
 else if H9 x k.gone=3 then(rQ x.1 k,st,wrap64 (bo+1))
 else(k,st,bo)
def lD(w:World)(b:Nat)(s:Ks)(k:Kn)(x:DN)(r:Kn×Int×Int)(e:Ending)(w':World):Prop:=
 e=.returned (.tuple #[])∧∃s',SW w' b s' r.1 r.2.1 r.2.2 x∧(∀B,B<w.heap.size→B≠b→iL B s k→iL B s' r.1)∧w.grownBy w' (some b)
theorem Rj(w:World)(b:Nat)(s:Ks)(k:Kn)(st bo:Int)(x:DN)(hw:SW w b s k st bo x)(hg:k.gone=0∨st=3):
  Calls Tryz.prog 52 #[.pointer (some ⟨b,0,none⟩)] w (lD w b s k x (k,st,bo)):=by
 have HW:=Lib.hid hw
 obtain⟨hcb,bn,hlb,hnb,hmb⟩:=hw.box.rules
 have hd:(k.gone==0)=true∨((k.gone==0)=false∧(st==3)=true):=by
  simp only[beq_iff_eq,beq_eq_false_iff_ne];omega
 clear hw hg
 rcases hd with e1|⟨e1,e2⟩
 all_goals
  go_enter Tryz.func52,Tryz.ntmps52
  go_wp2_with fail
  exact bodyPost_ret (v:= .tuple #[]) om rfl ⟨rfl,s,HW.out,fun _ _ _ h=>h,pI _ _⟩
def sQ:List Nat:=lu++[1,1,1,1,1,1]
theorem SW.grown{w w':World}{b:Nat}{s:Ks}{k:Kn}{st bo st' bo':Int}{x:DN}(h:SW w b s k st bo x)(hb:aC w' b (xC s k (wx st' bo' x)) 113)(hg:w.grownBy w' (some b)):SW w' b s k st' bo' x:=
 ⟨hb,h.kr.bL (ks:=sQ) h.aw h.box (rU h.kr _) wL aB aB aB hg,h.aw⟩
theorem SW.below{w w':World}{b:Nat}{s:Ks}{k:Kn}{st bo:Int}{x:DN}(h:SW w b s k st bo x)(hb:Below w.heap.size w w'):SW w' b s k st bo x:=
 ⟨h.box.below hb h.box.lt,h.kr.below hb,h.aw⟩
theorem VJ(w:World)(b:Nat)(s:Ks)(k:Kn)(st bo:Int)(m a1 a2:Int)(hw:SW w b s k st bo (m,2,a1,a2))(hg:k.gone=1)(hs:st≠3):
  Calls Tryz.prog 52 #[.pointer (some ⟨b,0,none⟩)] w (lD w b s k (m,2,a1,a2) (k,3,bo)):=by
 have HW:=Lib.hid hw
 obtain⟨hcb,bn,hlb,hnb,hmb⟩:=hw.box.rules
 have e2:(st==3)=false:=oh
 clear hw hs
 go_enter Tryz.func52,Tryz.ntmps52
 go_wp2_with fail
 go_region
 go_upto_block 0 with fail
 ((have hd1:Below w.heap.size w w.drew:=(Below.refl _ _).drew);(generalize w.drew=w1 at hd1⊢))
 (refine bH ?_;refine bQ aB ?_;refine qV aB ?_;refine bQ aB ?_;apply bR;(focus(go_wp2_with fail;exact⟨rfl,rfl,rfl⟩)))
 have h1:=HW.out.below hd1
 obtain⟨ah7,ah2,Xt,ahI,ahK⟩:=h1.box.rules
 go_wp2_with fail
 refine dn ?_
 go_wp2_with fail
 exact bodyPost_end (v:= .tuple #[]) om rfl ⟨rfl,s,h1.grown ((h1.box.set 17 _).cast (yS s k _ _)) (aM _ _ _ _),fun _ _ _ h=>h,aA (ay hd1 _) (aM _ _ _ _)⟩
theorem VK(w:World)(b:Nat)(s:Ks)(k:Kn)(st bo:Int)(m a1 a2:Int)(hw:SW w b s k st bo (m,1,a1,a2))(hg:k.gone=1)(hs:st≠3):
  Calls Tryz.prog 52 #[.pointer (some ⟨b,0,none⟩)] w (lD w b s k (m,1,a1,a2) (k,st,bo)):=by
 have HW:=Lib.hid hw
 obtain⟨hcb,bn,hlb,hnb,hmb⟩:=hw.box.rules
 have e2:(st==3)=false:=oh
 clear hw hs
 go_enter Tryz.func52,Tryz.ntmps52
 go_wp2_with fail
 go_region
 go_upto_block 0 with fail
 ((have hd1:Below w.heap.size w w.drew:=(Below.refl _ _).drew);(generalize w.drew=w1 at hd1⊢))
 (refine bH ?_;apply pF;(focus((apply Ck);(iterate 2 (apply bJ (hid:=by decide)));go_wp2_with fail;exact⟨rfl,rfl,rfl⟩)))
 go_wp2_with fail
 refine dn ?_
 go_wp2_with fail
 exact bodyPost_end (v:= .tuple #[]) om rfl ⟨rfl,s,HW.out.below hd1,fun _ _ _ h=>h,ay hd1 _⟩
theorem VH(w:World)(b:Nat)(s:Ks)(k:Kn)(st bo:Int)(m a0 a1 a2:Int)(hw:SW w b s k st bo (m,a0,a1,a2))(hg:k.gone=1)(hs:st≠3)(h2:a0≠2)(h3:a0≠3)(h4:a0≠1):
  Calls Tryz.prog 52 #[.pointer (some ⟨b,0,none⟩)] w (lD w b s k (m,a0,a1,a2) (k,st,bo)):=by
 have HW:=Lib.hid hw
 obtain⟨hcb,bn,hlb,hnb,hmb⟩:=hw.box.rules
 have e2:(st==3)=false:=oh
 have d2:(a0==2)=false:=rG
 have d3:(a0==3)=false:=o_
 have d4:(a0==1)=false:=BG
 clear h2 h3 h4
 clear hw hs
 go_enter Tryz.func52,Tryz.ntmps52
 go_wp2_with fail
 go_region
 go_upto_block 0 with fail
 ((have hd1:Below w.heap.size w w.drew:=(Below.refl _ _).drew);(generalize w.drew=w1 at hd1⊢))
 (refine bH ?_;apply bR;(focus((apply vv (hid:=by decide));(iterate 2 (apply bJ (hid:=by decide)));go_wp2_with fail;exact⟨rfl,rfl,rfl⟩)))
 go_wp2_with fail
 refine dn ?_
 go_wp2_with fail
 exact bodyPost_end (v:= .tuple #[]) om rfl ⟨rfl,s,HW.out.below hd1,fun _ _ _ h=>h,ay hd1 _⟩
theorem VF(w:World)(b:Nat)(s:Ks)(k:Kn)(st bo:Int)(m a0 a2:Int)(hw:SW w b s k st bo (m,a0,2,a2))(hg:k.gone=2)(hs:st≠3):
  Calls Tryz.prog 52 #[.pointer (some ⟨b,0,none⟩)] w (lD w b s k (m,a0,2,a2) (k,3,bo)):=by
 have HW:=Lib.hid hw
 obtain⟨hcb,bn,hlb,hnb,hmb⟩:=hw.box.rules
 have e2:(st==3)=false:=oh
 clear hw hs
 go_enter Tryz.func52,Tryz.ntmps52
 go_wp2_with fail
 go_region
 go_upto_block 0 with fail
 ((have hd1:Below w.heap.size w w.drew:=(Below.refl _ _).drew);(generalize w.drew=w1 at hd1⊢))
 (refine bH ?_;refine bQ aB ?_;refine qV aB ?_;refine bQ aB ?_;apply bR;(focus(go_wp2_with fail;exact⟨rfl,rfl,rfl⟩)))
 have h1:=HW.out.below hd1
 obtain⟨ah7,ah2,Xt,ahI,ahK⟩:=h1.box.rules
 go_wp2_with fail
 refine dn ?_
 go_wp2_with fail
 exact bodyPost_end (v:= .tuple #[]) om rfl ⟨rfl,s,h1.grown ((h1.box.set 17 _).cast (yS s k _ _)) (aM _ _ _ _),fun _ _ _ h=>h,aA (ay hd1 _) (aM _ _ _ _)⟩
theorem VG(w:World)(b:Nat)(s:Ks)(k:Kn)(st bo:Int)(m a0 a2:Int)(hw:SW w b s k st bo (m,a0,1,a2))(hg:k.gone=2)(hs:st≠3):
  Calls Tryz.prog 52 #[.pointer (some ⟨b,0,none⟩)] w (lD w b s k (m,a0,1,a2) (k,st,bo)):=by
 have HW:=Lib.hid hw
 obtain⟨hcb,bn,hlb,hnb,hmb⟩:=hw.box.rules
 have e2:(st==3)=false:=oh
 clear hw hs
 go_enter Tryz.func52,Tryz.ntmps52
 go_wp2_with fail
 go_region
 go_upto_block 0 with fail
 ((have hd1:Below w.heap.size w w.drew:=(Below.refl _ _).drew);(generalize w.drew=w1 at hd1⊢))
 (refine bH ?_;apply pF;(focus((apply Ck);(iterate 2 (apply bJ (hid:=by decide)));go_wp2_with fail;exact⟨rfl,rfl,rfl⟩)))
 go_wp2_with fail
 refine dn ?_
 go_wp2_with fail
 exact bodyPost_end (v:= .tuple #[]) om rfl ⟨rfl,s,HW.out.below hd1,fun _ _ _ h=>h,ay hd1 _⟩
theorem VD(w:World)(b:Nat)(s:Ks)(k:Kn)(st bo:Int)(m a0 a1 a2:Int)(hw:SW w b s k st bo (m,a0,a1,a2))(hg:k.gone=2)(hs:st≠3)(h2:a1≠2)(h3:a1≠3)(h4:a1≠1):
  Calls Tryz.prog 52 #[.pointer (some ⟨b,0,none⟩)] w (lD w b s k (m,a0,a1,a2) (k,st,bo)):=by
 have HW:=Lib.hid hw
 obtain⟨hcb,bn,hlb,hnb,hmb⟩:=hw.box.rules
 have e2:(st==3)=false:=oh
 have d2:(a1==2)=false:=rG
 have d3:(a1==3)=false:=o_
 have d4:(a1==1)=false:=BG
 clear h2 h3 h4
 clear hw hs
 go_enter Tryz.func52,Tryz.ntmps52
 go_wp2_with fail
 go_region
 go_upto_block 0 with fail
 ((have hd1:Below w.heap.size w w.drew:=(Below.refl _ _).drew);(generalize w.drew=w1 at hd1⊢))
 (refine bH ?_;apply bR;(focus((apply vv (hid:=by decide));(iterate 2 (apply bJ (hid:=by decide)));go_wp2_with fail;exact⟨rfl,rfl,rfl⟩)))
 go_wp2_with fail
 refine dn ?_
 go_wp2_with fail
 exact bodyPost_end (v:= .tuple #[]) om rfl ⟨rfl,s,HW.out.below hd1,fun _ _ _ h=>h,ay hd1 _⟩
theorem VA(w:World)(b:Nat)(s:Ks)(k:Kn)(st bo:Int)(m a0 a1:Int)(hw:SW w b s k st bo (m,a0,a1,2))(hg:k.gone=3)(hs:st≠3):
  Calls Tryz.prog 52 #[.pointer (some ⟨b,0,none⟩)] w (lD w b s k (m,a0,a1,2) (k,3,bo)):=by
 have HW:=Lib.hid hw
 obtain⟨hcb,bn,hlb,hnb,hmb⟩:=hw.box.rules
 have e2:(st==3)=false:=oh
 clear hw hs
 go_enter Tryz.func52,Tryz.ntmps52
 go_wp2_with fail
 go_region
 go_upto_block 0 with fail
 ((have hd1:Below w.heap.size w w.drew:=(Below.refl _ _).drew);(generalize w.drew=w1 at hd1⊢))
 (refine bH ?_;refine bQ aB ?_;refine qV aB ?_;refine bQ aB ?_;apply bR;(focus(go_wp2_with fail;exact⟨rfl,rfl,rfl⟩)))
 have h1:=HW.out.below hd1
 obtain⟨ah7,ah2,Xt,ahI,ahK⟩:=h1.box.rules
 go_wp2_with fail
 refine dn ?_
 go_wp2_with fail
 exact bodyPost_end (v:= .tuple #[]) om rfl ⟨rfl,s,h1.grown ((h1.box.set 17 _).cast (yS s k _ _)) (aM _ _ _ _),fun _ _ _ h=>h,aA (ay hd1 _) (aM _ _ _ _)⟩
theorem VB(w:World)(b:Nat)(s:Ks)(k:Kn)(st bo:Int)(m a0 a1:Int)(hw:SW w b s k st bo (m,a0,a1,1))(hg:k.gone=3)(hs:st≠3):
  Calls Tryz.prog 52 #[.pointer (some ⟨b,0,none⟩)] w (lD w b s k (m,a0,a1,1) (k,st,bo)):=by
 have HW:=Lib.hid hw
 obtain⟨hcb,bn,hlb,hnb,hmb⟩:=hw.box.rules
 have e2:(st==3)=false:=oh
 clear hw hs
 go_enter Tryz.func52,Tryz.ntmps52
 go_wp2_with fail
 go_region
 go_upto_block 0 with fail
 ((have hd1:Below w.heap.size w w.drew:=(Below.refl _ _).drew);(generalize w.drew=w1 at hd1⊢))
 (refine bH ?_;apply pF;(focus((apply Ck);(iterate 2 (apply bJ (hid:=by decide)));go_wp2_with fail;exact⟨rfl,rfl,rfl⟩)))
 go_wp2_with fail
 refine dn ?_
 go_wp2_with fail
 exact bodyPost_end (v:= .tuple #[]) om rfl ⟨rfl,s,HW.out.below hd1,fun _ _ _ h=>h,ay hd1 _⟩
theorem Vy(w:World)(b:Nat)(s:Ks)(k:Kn)(st bo:Int)(m a0 a1 a2:Int)(hw:SW w b s k st bo (m,a0,a1,a2))(hg:k.gone=3)(hs:st≠3)(h2:a2≠2)(h3:a2≠3)(h4:a2≠1):
  Calls Tryz.prog 52 #[.pointer (some ⟨b,0,none⟩)] w (lD w b s k (m,a0,a1,a2) (k,st,bo)):=by
 have HW:=Lib.hid hw
 obtain⟨hcb,bn,hlb,hnb,hmb⟩:=hw.box.rules
 have e2:(st==3)=false:=oh
 have d2:(a2==2)=false:=rG
 have d3:(a2==3)=false:=o_
 have d4:(a2==1)=false:=BG
 clear h2 h3 h4
 clear hw hs
 go_enter Tryz.func52,Tryz.ntmps52
 go_wp2_with fail
 go_region
 go_upto_block 0 with fail
 ((have hd1:Below w.heap.size w w.drew:=(Below.refl _ _).drew);(generalize w.drew=w1 at hd1⊢))
 (refine bH ?_;apply bR;(focus((apply vv (hid:=by decide));(iterate 2 (apply bJ (hid:=by decide)));go_wp2_with fail;exact⟨rfl,rfl,rfl⟩)))
 go_wp2_with fail
 refine dn ?_
 go_wp2_with fail
 exact bodyPost_end (v:= .tuple #[]) om rfl ⟨rfl,s,HW.out.below hd1,fun _ _ _ h=>h,ay hd1 _⟩
theorem acr(w:World)(b:Nat)(s:Ks)(k:Kn)(st bo:Int)(m a0 a1 a2:Int)(hw:SW w b s k st bo (m,a0,a1,a2))(hg:k.gone≠0)(hg1:¬(1≤k.gone∧k.gone≤3))(hs:st≠3):
  Calls Tryz.prog 52 #[.pointer (some ⟨b,0,none⟩)] w (lD w b s k (m,a0,a1,a2) (k,st,bo)):=by
 have HW:=Lib.hid hw
 obtain⟨hcb,bn,hlb,hnb,hmb⟩:=hw.box.rules
 have e2:(st==3)=false:=oh
 have d1:decide (1≤k.gone)=true∨decide (1≤k.gone)=false:=by cases decide (1≤k.gone)<;>simp
 have d1f:decide (1≤k.gone)=true→decide (k.gone≤3)=false:=fun h=>decide_eq_false (fun h'=>hg1 ⟨of_decide_eq_true h,h'⟩)
 have e1:(k.gone==0)=false:=by simp[hg]
 clear hw hs
 clear hg hg1
 have hd1:=Below.refl w.heap.size w
 rcases d1 with d1|d1
 ·have d1g:=d1f d1
  exact aeE
 ·exact aeE
end Go.Proofs.YtgmodehldmahiaaGreatDoor
end
