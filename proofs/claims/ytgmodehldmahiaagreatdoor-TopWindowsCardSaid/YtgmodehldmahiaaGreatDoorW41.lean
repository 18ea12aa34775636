/- Part 41 of 50 of the proof of topWindows_holds. Conditions: see each. -/
import Derived.Test.YtgmodehldmahiaaGreatDoorW14
import Derived.Test.YtgmodehldmahiaaGreatDoorW40
set_option linter.unusedVariables false
set_option linter.unusedSimpArgs false
set_option maxRecDepth 8192
set_option maxHeartbeats 40000000
namespace Go.Proofs.YtgmodehldmahiaaGreatDoor
open Go Go.RowKit Go.Tm
attribute [local go_sem] fB fA fu dR dA dQ dP dO dN dM dL dK dJ dI dH dG dF iq ig h_ g_ gZ gY gX gN gW gV fF fE fD fC eY eX eU
attribute [local go_sem] Dm Dl Dk Dj Di Aj Dh Df Dc Db wQ
def hC0:Array Value:=#[.slice none 0 0,.int .i64 0,.slice none 0 0,.slice none 0 0,.slice none 0 0,.int .u64 0,.int .i64 0,.int .i64 0,.slice none 0 0,.slice none 0 0,.int .i64 0]
theorem mY:hC0.size=11:=rfl
attribute [local go_sem] wz
theorem agH(t port:Int)(body:ByteArray):Val true 3 (TM t port body):=⟨_,rfl,rfl,IB⟩
theorem zn(a:Option Addr)(n c:Nat):Val false 1 (.slice a n c):=⟨rfl,rfl⟩
theorem lG{P:Program}{ops:Array Oper}{S:World→Prop}{o:Oper}{a:Act}{k:Nat}{ag:Bool}(E:TypeId)(p:Operand)(ho:o.op=.load E p){b off:Nat}(x:Value)(ht:Ty P E k ag)(hx:Val ag k x)
  (hw:Region.wanted o (yielded ops a.tmps)=true)(hp:a.eval p=.pointer (some ⟨b,off,none⟩))(hS:∀w,S w→Cells w b off x.cells.toList):YieldsIf P ops S o x a:=
 Or.inl ⟨hw,fun w hs=>by
  unfold execOp
  simp only[ho,hp,Instr.loadAt,Instr.sureAddr,Sem.run_bind,Sem.run_pure,Result.andThen_ok,iB ht hx (show Cells w b off x.cells.toList from hS w hs)]⟩
theorem iA{pv wv cv iv:Value}{p:Plan.iE}{s:Hs}{h:Hn}:(hC pv wv cv iv p s h).size<26:=by rw[jL];decide
theorem MR.MP{w:World}{pv wv cv iv:Value}{p:Plan.iE}{s:Hs}{h:Hn}{n m B d:Nat}{t:TypeId}{v u:Value}{l:List Value}(hb:aC w B (hC pv wv cv iv p s h) t)(hm:MR w s h n)(ha:gG B s h)(hp:Plan.gq w pv wv cv p)(hi:kind iv=5)
  (hv:Sl w false 1 v (s.rows.set d u))(hva:Apart B v (s.rows.set d u))(hu:Sl w true 3 u l)(hua:Apart B u l)(hl:l.length≤m)(hnm:n≤m):
  aC (w.setCell ⟨B,9,none⟩ v) B (hC pv wv cv iv p {s with av:=v,rows:=s.rows.set d u,got:=s.got.set d l} h) t∧MR (w.setCell ⟨B,9,none⟩ v) {s with av:=v,rows:=s.rows.set d u,got:=s.got.set d l} h m:=by
 have hg:=aM w B 9 v
 refine⟨(hb.set 9 v).cast (ajh ..),?_⟩
 exact(hm.bL ha hb (oI hp hi hm) iA aB aB aB hg).setRow hnm (hv.bC hg hva) (hu.bC hg hua) hl
theorem MR.Ce{w:World}{pv wv cv iv:Value}{p:Plan.iE}{s:Hs}{h:Hn}{n B d:Nat}{t:TypeId}{v:Value}{u:Ks}{x:St}(hb:aC w B (hC pv wv cv iv p s h) t)(hm:MR w s h n)(ha:gG B s h)(hp:Plan.gq w pv wv cv p)(hi:kind iv=5)
  (hv:Sl w true 19 v ((ql s.ss h.seats).set d (R5 u x)))(hva:Apart B v ((ql s.ss h.seats).set d (R5 u x)))(hk:KR w u x.1)(hka:iL B u x.1):
  aC (w.setCell ⟨B,8,none⟩ v) B (hC pv wv cv iv p {s with sv:=v,ss:=s.ss.set d u} {h with seats:=h.seats.set d x}) t∧MR (w.setCell ⟨B,8,none⟩ v) {s with sv:=v,ss:=s.ss.set d u} {h with seats:=h.seats.set d x} n:=by
 have hg:=aM w B 8 v
 have hks:=oI hp hi hm
 refine⟨(hb.set 8 v).cast (ae9 ..),?_⟩
 exact(hm.bL ha hb hks iA aB aB aB hg).Ao (hv.bC hg hva) (hk.bL hka hb hks iA aB aB aB hg)
theorem iF{w:World}{base:Nat}{E:TypeId}{ag:Bool}{k:Nat}{v:Value}{xs:List Value}(h:bB w base E ag k v xs){B:Nat}(hB:B<base):Apart B v xs:= .inr fun b hb=>by have:=h.fP b hb;omega
structure AJ(F:Option Addr→Nat→Nat→Option Addr→Nat→Nat→World→Prop)(G:Option Addr→Nat→Nat→Option Addr→Nat→Nat→Act)(a':Act)(w':World):Prop where
 ex:∃a g n b m l,F a g n b m l w'∧a'=G a g n b m l
theorem AJ.of{F:Option Addr→Nat→Nat→Option Addr→Nat→Nat→World→Prop}{G:Option Addr→Nat→Nat→Option Addr→Nat→Nat→Act}{a':Act}{w':World}(a:Option Addr)(g n:Nat)(b:Option Addr)(m l:Nat)(h:F a g n b m l w')(e:a'=G a g n b m l):AJ F G a' w':=⟨a,g,n,b,m,l,h,e⟩
theorem ZE{P:Program}{c:Code}{Q:Exit→Act→World→Prop}{a:Act}{w:World}(F:Option Addr→Nat→Nat→Option Addr→Nat→Nat→World→Prop)(G:Option Addr→Nat→Nat→Option Addr→Nat→Nat→Act)
  (h:c.wp P (fun e a' w'=>e=.normal∧AJ F G a' w') a w)(hM:∀a g n b m l W,F a g n b m l W→Q .normal (G a g n b m l) W):c.wp P Q a w:=
 Code.wp_mono (fun e a w h=>by obtain⟨rfl,a1,g,n,b,m,l,h1,rfl⟩:=h;exact hM _ _ _ _ _ _ w h1) h
theorem U5(pv wv cv iv:Value)(p:Plan.iE)(s:Hs)(h:Hn)(n who:Nat)(x:St)(w:World)(hp:Plan.gq w pv wv cv p)(hi:kind iv=5)(hr:MR w s h n)(hx:h.seats[who]?=some x)
  (hf:∀j,agd p (gL p who h (x.1.se.take j)) (n+x.1.se.length))(hms:∀m∈x.1.se,wfi m.1∧m.2.size≤9223372036854775807):
  Calls Tryz.prog 63 #[.agg (hC pv wv cv iv p s h),.int .i64 who] w (FI w pv wv cv iv p s h (gL p who h x.1.se) (n+x.1.se.length)):=by
 have HP:=Lib.hid hp
 have HM:=Lib.hid hr
 have HF:=Lib.hid hf
 have hwl:=(List.getElem?_eq_some_iff.1 hx).1
 obtain⟨u,hu⟩:∃u,s.ss[who]?=some u:=⟨_,List.getElem?_eq_getElem PG⟩
 have hkr:=hr.kr who u x hu hx
 obtain⟨asv,Ox,hsv,Es⟩:=hr.sv.shape
 obtain⟨ase,cse,hse,aj0⟩:=hkr.Se.shape
 obtain⟨sv,ss,av,rows,got⟩:=s
 dsimp only at hsv
 subst hsv
 obtain⟨bs,os,hbs,O8,hcs⟩:=hr.sv.at (kD hu hx)
 dsimp only at hu Es
 rw[ku hr.nX] at Es hr HM⊢
 rw[List.length_map] at hse aj0
 have ah8:=hcs 14 u.Se (by rw[show(R5 u x).cells=xC u x.1 (sx x.2.1 x.2.2) from rfl,Array.getElem?_toList,Ac _ _ _ aB,eY])
 rw[hse] at ah8
 have hsz:=jL pv wv cv iv p ⟨.slice asv h.seats.length Ox,ss,av,rows,got⟩ h
 have hsz0:hC0.size=11:=rfl
 have hkz:=hkr.Se
 rw[hse] at hkz
 have HSE:=Lib.hid hkz
 subst hbs
 clear hr hf hp hkr hkz hcs hsz
 go_enter Tryz.func63,Tryz.ntmps63
 go_wp2_with fail
 ((generalize bN:World.alloc _ _=w0);(have KB:aC w0 (w.heap.size) (hC pv wv cv iv p ⟨.slice (some ⟨bs,os,none⟩) h.seats.length Ox,ss,av,rows,got⟩ h) 36:=bA);(have KZ:aC w0 (w.heap.size+1) (hC0) 36:=bA);(have hb0:Below w.heap.size w w0:=bM);(have hz0:w0.heap.size=w.heap.size+1+1:=bX);(clear bN);(have KB:=Lib.hid KB);(have KZ:=Lib.hid KZ))
 clear ah8 O8 hwl Es
 generalize hs0:(⟨.slice (some ⟨bs,os,none⟩) h.seats.length Ox,ss,av,rows,got⟩:Hs)=s at*
 go_loopw [18] (fun t W=>∃(i:Nat) (s':Hs),i≤x.1.se.length∧t=.int .i64 i∧aC W w.heap.size (hC pv wv cv iv p s' (gL p who h (x.1.se.take i))) 36∧aC W (w.heap.size+1) hC0 36∧MR W s' (gL p who h (x.1.se.take i)) (n+i)∧(∀B,B<w.heap.size+2→gG B s h→gG B s' (gL p who h (x.1.se.take i)))∧Below w.heap.size w W) (fun t _=>x.1.se.length-(intOf t).toNat)
 case atStart=>exact⟨0,s,Nat.zero_le _,rfl,KB.out,KZ.out,HM.out.below hb0,fun _ _ h=>h,hb0⟩
 case round=>
  obtain⟨i,s',hi',rfl,hkb,hkz,hmr,haw,hbw⟩:=hrel
  have vV:=Lib.hid hkb
  have Bq:=Lib.hid hkz
  have HM1:=Lib.hid hmr
  have HA1:=Lib.hid haw
  have HB1:=Lib.hid hbw
  have hwz:=hbw.size
  clear hkb hkz hmr haw
  by_cases hil:i<x.1.se.length
  ·obtain⟨m,hm⟩:∃m,x.1.se[i]?=some m:=⟨_,List.getElem?_eq_getElem hil⟩
   have hst:=Lib.hid (NQ (p:=p) (who:=(who:Int)) (h:=h) hm)
   have hfi:=(HF.out i)
   have alp:=(HF.out (i+1))
   obtain⟨be,oe,rfl,hbe,hce⟩:=(HSE.out.below hbw).at (i:=i) (x:=Ju m) (by rw[List.getElem?_map,hm];rfl)
   have nu:=Lib.hid hce
   obtain⟨a1,c1,a2,c2,a3,c3,rfl,rfl,rfl,hl1,hl2,hl3⟩:=HP.out.shape
   generalize gL p who h (x.1.se.take i)=h1 at*
   (obtain⟨hcb,bn,hlb,hnb,hmb⟩:=aC.rules vV.out)
   have hmw:=hms m (List.mem_of_getElem? hm)
   have ajV:=FB m
   have Bw:be<wr.heap.size:=ah
   go_wp2_with(first|((with_reducible refine bS 136 ?_);(refine aO rfl 136 _ rfl be (oe+i*2) ?_ (Ju m) Yl (ajV) nu.out ?_;(exact aG)))|fail)
   ((generalize bN:World.alloc _ _=w1);(have KM:aC w1 (wr.heap.size) (#[.int .i64 m.1,.string m.2]) 136:=bA);(have hb0:Below wr.heap.size wr w1:=bM);(have hz0:w1.heap.size=wr.heap.size+1:=bX);(clear bN);(have KM:=Lib.hid KM))
   have ah4:Sl w1 true 5 (.slice a3 p.chans.length c3) (bf.lU p.chans):=(HP.out.chans.below hbw).below hb0
   with_reducible refine(bf.agE a1 p.parts.length c1 p.frame (.slice a2 p.wins.length c2) (.slice a3 p.chans.length c3) p.chans who m.1 w1 ah4 hmw.1 (by have:=hfi.ch;omega)).mono ?_
   rintro en w2 ⟨rfl,hb2⟩
   obtain⟨r,hr⟩:∃r,r=bf.toS p.chans who m.1:=⟨_,rfl⟩
   have hrg:r.2.2=true→0≤r.1∧r.1<h1.seats.length:=fun e=>by rw[hr] at e⊢;exact ZT hfi.goes e
   have qo:=hst.out
   unfold jR at qo
   rw[←hr] at qo⊢
   clear hr hst
   obtain⟨r1,r2,r3⟩:=r
   dsimp only at qo hrg⊢
   have eP:Below wr.heap.size wr w2:=hb0.trans (hb2.mono hb0.size)
   have hz2:=hb2.size
   have Eo:=Lib.hid (vV.out.below eP vV.out.lt)
   have Oz:=Lib.hid (Bq.out.below eP Bq.out.lt)
   have KM2:=Lib.hid (KM.out.below hb2 KM.out.lt)
   have hbw2:=hbw.trans (eP.mono hwz)
   have HM2:=Lib.hid (HM1.out.below eP)
   have abr:IntKind.i64.wrap ((i:Int)+1)=i+1:=IntWalk.i64_in _ (by have:=hfi.n;omega)
   clear hcb bn hlb hnb hmb hbe hce nu ah4 hb2
   cases r3
   ·rw[if_neg aB] at qo
    go_wp2_with fail
    generalize hW3:World.alloc _ _=w3
    have jO:Below w2.heap.size w2 w3:=by rw[←hW3];exact bl
    clear hW3
    go_roundw
    case rel=>exact⟨i+1,s',ah,bI,by rw[qo];exact Eo.out.below jO Eo.out.lt,Oz.out.below jO Oz.out.lt,by rw[qo];exact(HM2.out.below jO).mono ah,by rw[qo];exact HA1.out,hbw2.trans (jO.mono ah)⟩
    case measure=>simp[intOf];omega
   ·rw[if_pos rfl] at qo
    obtain⟨d,rfl⟩:∃d:Nat,r1=d:=⟨r1.toNat,by have:=(hrg rfl).1;omega⟩
    have hd:d<h1.seats.length:=by have:=(hrg rfl).2;omega
    obtain⟨sv2,ss2,av2,oQ,DV⟩:=s'
    have hm2:=HM2.out
    obtain⟨y,hy⟩:∃y,h1.seats[d]?=some y:=⟨_,List.getElem?_eq_getElem hd⟩
    obtain⟨uu,huu⟩:∃uu,ss2[d]?=some uu:=⟨_,List.getElem?_eq_getElem (by rw[show ss2.length=_ from hm2.nX];exact hd)⟩
    obtain⟨rv,hrv⟩:∃rv,oQ[d]?=some rv:=⟨_,List.getElem?_eq_getElem (by rw[show oQ.length=_ from hm2.rlen];exact hd)⟩
    obtain⟨gl,hgl⟩:∃gl,DV[d]?=some gl:=⟨_,List.getElem?_eq_getElem (by rw[show DV.length=_ from hm2.Pn];exact hd)⟩
    have hkr:=hm2.kr d uu y huu hy
    obtain⟨hrow,akQ⟩:=hm2.row d rv gl hrv hgl
    obtain⟨aly,aij,afy,ae3⟩:=hm2.sv.shape
    obtain⟨aav,cav,hav,ahR⟩:=hm2.av.shape
    obtain⟨ar,cr,ajQ,hlr⟩:=hrow.shape
    rw[ku hm2.nX] at afy ae3
    rw[hm2.rlen] at hav ahR
    dsimp only at afy ae3 hav ahR
    subst afy hav ajQ
    obtain⟨b3,o3,hb3,akj,hc3⟩:=hm2.sv.at (kD huu hy)
    obtain⟨b4,o4,hb4,aki,hc4⟩:=hm2.av.at hrv
    subst hb3 hb4
    have HC3:=Lib.hid hc3
    have HC4:=Lib.hid hc4
    have JA:=jM hkr y.2.1 y.2.2
    have HKR:=Lib.hid hkr
    have akz:=Lib.hid hrow
    have hsz5:(xC uu y.1 (sx y.2.1 y.2.2)).size=19:=uO
    clear hm2 hc3 hc4 hkr hrow
    (obtain⟨hcb,bn,hlb,hnb,hmb⟩:=aC.rules Eo.out)
    (obtain⟨hcm,hfm,hlm,hnm,hmm⟩:=aC.rules KM2.out)
    go_wp2_with(first|((with_reducible refine bS 59 ?_);(refine aO rfl 59 _ rfl b3 (o3+d*19) ?_ (iM uu y.1 y.2.1 y.2.2) eF (JA) (HC3.out.below aD akj) ?_;(exact aG)))|((with_reducible refine bO 59 ?_);(refine aU rfl 59 _ _ rfl (xC uu y.1 (sx y.2.1 y.2.2)) eF (JA) aF ?_ ?_ ?_;(exact aG);(exact aG)))|fail)
    ((generalize bN:World.alloc _ _=w3);(have KRT:aC w3 (w2.heap.size) (#[.int .i64 d,.int .i64 r2]) 168:=bA);(have KST:aC w3 (w2.heap.size+1) (xC uu y.1 (sx y.2.1 y.2.2)) 59:=bA);(have hb0:Below w2.heap.size w2 w3:=bM);(have hz0:w3.heap.size=w2.heap.size+1+1:=bX);(clear bN);(have KRT:=Lib.hid KRT);(have KST:=Lib.hid KST))
    have jO:=hb0
    have ak1:w2.heap.size+1+1≤w3.heap.size:=ah
    clear hb0 hz0 hcb bn hlb hnb hmb hcm hfm hlm hnm hmm hsz5
    have G7:=Lib.hid (Eo.out.below jO Eo.out.lt)
    have Jw:=Lib.hid (Oz.out.below jO Oz.out.lt)
    have KM3:=Lib.hid (KM2.out.below jO KM2.out.lt)
    have OY:=Lib.hid (HM2.out.below jO)
    have afa:=Lib.hid (akz.out.below jO)
    have akM:=Lib.hid (HC4.out.below jO aki)
    have ajg:b4<w3.heap.size:=ah
    have fJ:=hbw2.trans (jO.mono ah)
    (obtain⟨hcb,bn,hlb,hnb,hmb⟩:=aC.rules G7.out)
    (obtain⟨hcm,hfm,hlm,hnm,hmm⟩:=aC.rules KM3.out)
    (obtain⟨hcr,hfr,Xr,hnr,afI⟩:=aC.rules KRT.out)
    (obtain⟨hcs,hfs,hls,hns,ajX⟩:=aC.rules KST.out)
    obtain⟨i0,hMM⟩:=UM
    have abv:=agH y.1.now r2 m.2
    have akU:gl.length≤1000000:=by have:=hfi.n;omega
    have hrl:oQ.length≤1000000:=by rw[show oQ.length=_ from OY.out.rlen];exact hfi.len
    have hdr:d<oQ.length:=(List.getElem?_eq_some_iff.1 hrv).1
    refine ZE (fun ao g nn yM m10 n10 W=>aC W w.heap.size (hC (.slice a1 p.parts.length c1) (.slice a2 p.wins.length c2) (.slice a3 p.chans.length c3) iv p ⟨.slice (some ⟨b3,o3,none⟩) h1.seats.length aij,ss2,.slice yM m10 n10,oQ.set d (.slice (some ⟨g,0,none⟩) (gl.length+1) nn),DV.set d (gl++[TM y.1.now r2 m.2])⟩ h1) 36∧MR W ⟨.slice (some ⟨b3,o3,none⟩) h1.seats.length aij,ss2,.slice yM m10 n10,oQ.set d (.slice (some ⟨g,0,none⟩) (gl.length+1) nn),DV.set d (gl++[TM y.1.now r2 m.2])⟩ h1 (n+i+1)∧(∀B,B<w3.heap.size→Apart B (.slice yM m10 n10) (oQ.set d (.slice (some ⟨g,0,none⟩) (gl.length+1) nn))∧Apart B (.slice (some ⟨g,0,none⟩) (gl.length+1) nn) (gl++[TM y.1.now r2 m.2]))∧Below w.heap.size w W∧w3.grownBy W (some w.heap.size)) ?G ?_ ?_
    rotate_left
    focus((refine aY (fun W=>Below w3.heap.size w3 W) (fun i=>decide (i<23)) aj ?_);
          (have hS:Below w3.heap.size w3 w3.drew:=(Below.refl _ _).drew);
          (refine tk 0 39 hS ?_);
          (refine tk 1 40 hS ?_ (hy:=Or.inl ⟨aF,O1⟩));
          (refine tk 2 41 hS ?_);
          (refine tk 3 42 hS ?_ (hy:=Or.inl ⟨aF,O1⟩));
          (refine tk 4 43 hS ?_);
          (refine tk 5 44 hS ?_ (hy:=Or.inl ⟨aF,O1⟩));
          (refine tk 6 45 hS ?_);
          (refine tk 7 46 hS ?_ (hy:=Or.inl ⟨aF,O1⟩));
          (refine tk 8 47 hS ?_);
          (refine cO 9 (oi:=⟨some 48,_,_,_,_,_⟩) rfl aj _root_.sx hS (lG 172 _ rfl (b:=b4) (off:=o4+d*1) (.slice ar gl.length cr) SQ (zn _ _ _) aF bg (fun W hs=>akM.out.below hs ajg)) ?_);
          (try simp only[pt]);
          (refine tk 11 50 hS ?_);
          (refine tk 12 51 hS ?_);
          (refine tk 13 52 hS ?_ (hy:=Or.inl ⟨aF,O1⟩));
          (refine tk 14 53 hS ?_);
          (refine tk 15 54 hS ?_ (hy:=Or.inl ⟨aF,O1⟩));
          (refine tk 16 55 hS ?_);
          (refine tk 17 56 hS ?_ (hy:=Or.inl ⟨aF,O1⟩));
          (refine tk 18 57 hS ?_);
          (refine gI 10 19 (oi:=⟨some 49,_,_,_,_,_⟩) (oj:=⟨some 58,_,_,_,_,_⟩) rfl rfl aj rfl rfl (fun K hK=>?_) (fun K hK=>?_));
          (focus((go_simp;(with_reducible refine(Gs (.slice ar gl.length cr) gl _ (afa.out.below hS)).mono ?_);rintro en w6 ⟨⟨ao,rfl,hcl⟩,rfl⟩;(have OG:=Lib.hid hcl);(clear hcl);(try go_wp2_with fail));(refine hK.out _ _ (fun _=>bF) ?_;clear hK K);(try simp only[pt]);(refine aK 19 (oi:=⟨some 58,_,_,_,_,_⟩) rfl aj rfl (fun K hK=>?_));(refine kJ _ rfl hMM aB (TM y.1.now r2 m.2) bg abv ?_);(refine hidS hK (hS.alloc hS.size _) (fun hS=>?_);clear hK K);(try simp only[pt]);((have HY:=Sl.qE (w:=w3.drew) (E:=175) abv rfl);(have hd8:Below w3.drew.heap.size w3.drew (w3.drew.alloc (.cells (TM y.1.now r2 m.2).cells 175)):=(Below.refl _ _).alloc (Nat.le_refl _) _);(generalize w3.drew.alloc (.cells (TM y.1.now r2 m.2).cells 175)=w8 at hS HY hd8⊢));(refine aK 20 (oi:=⟨some 59,_,_,_,_,_⟩) rfl aj rfl (fun K hK=>?_));((refine mg rfl hMM ao gl bg J9 w3.heap.size (TM y.1.now r2 m.2) HY bg wJ ah ?_;intro g9 n9 w9 vN nK));(refine hidS hK (hS.trans (nK.mono hS.size)) (fun hS=>?_);clear hK K);(try simp only[pt]);((have Bt:=Lib.hid (vN.le (base':=w3.heap.size) adn));(clear vN));(refine aK 21 (oi:=⟨some 60,_,_,_,_,_⟩) rfl aj rfl (fun K hK=>?_));(go_simp;(with_reducible refine(MU _ oQ d _ _ (OY.out.av.below hS) hdr (zn _ _ _) ah).mono ?_);rintro en uH ⟨v10,rfl,zV,pV⟩;(have hS:=hS.trans (Below.mono pV hS.size));(obtain⟨yM,m10,n10,rfl⟩:=zV.sl.is);(have qp:=Lib.hid (zV.le (base':=w3.heap.size) adB));(have EO:=Lib.hid (Bt.out.kept pV));(clear zV Bt);(try go_wp2_with fail));(refine hK.out _ _ (fun _=>bF) ?_;clear hK K);(try simp only[pt]);(refine tk 22 61 hS ?_);(try simp only[pt]);(refine aT 23 aj ?_ rfl);(simp only[List.toList_toArray,List.drop_succ_cons,List.drop_zero]);((have xU:=Lib.hid (G7.out.below hS G7.out.lt));(obtain⟨hcq,Ov,hlq,hnq,Oq⟩:=aC.rules xU.out);(have vX:=MR.MP (m:=n+i+1) xU.out (OY.out.below hS) (HA1.out w.heap.size ah (HM.out.away (Nat.le_refl _))) (HP.out.below (fJ.trans (hS.mono fJ.size))) hi qp.out.sl (iF qp.out ah) EO.out.sl (iF EO.out ah) aR ah);(have HS5:=Lib.hid vX);(have HBS:=Lib.hid (show Below w.heap.size w (uH.setCell ⟨w.heap.size,9,none⟩ (.slice yM m10 n10)) from Below.setCell (fJ.trans (hS.mono fJ.size)) (Nat.le_refl _) _));(clear vX);go_wp2_with fail;(refine AJ.of ao g9 n9 yM m10 n10 ⟨HS5.out.1,HS5.out.2,fun B hB=>⟨iF qp.out hB,iF EO.out hB⟩,HBS.out,aA (ay hS _) (aM _ _ _ _)⟩ ?_);with_reducible rfl)));
          (focus((refine kJ _ rfl hMM aB (TM y.1.now r2 m.2) bg abv ?_);(refine hidS hK (hS.alloc hS.size _) (fun hS=>?_);clear hK K);(try simp only[pt]);((have HY:=Sl.qE (w:=w3.drew) (E:=175) abv rfl);(have hd8:Below w3.drew.heap.size w3.drew (w3.drew.alloc (.cells (TM y.1.now r2 m.2).cells 175)):=(Below.refl _ _).alloc (Nat.le_refl _) _);(generalize w3.drew.alloc (.cells (TM y.1.now r2 m.2).cells 175)=w8 at hS HY hd8⊢));(refine aK 10 (oi:=⟨some 49,_,_,_,_,_⟩) rfl aj rfl (fun K hK=>?_));(go_simp;(with_reducible refine(Gs (.slice ar gl.length cr) gl _ (afa.out.below hS)).mono ?_);rintro en w6 ⟨⟨ao,rfl,hcl⟩,rfl⟩;(have OG:=Lib.hid hcl);(clear hcl);(try go_wp2_with fail));(refine hK.out _ _ (fun _=>bF) ?_;clear hK K);(try simp only[pt]);(refine aK 20 (oi:=⟨some 59,_,_,_,_,_⟩) rfl aj rfl (fun K hK=>?_));((refine mg rfl hMM ao gl bg J9 w3.heap.size (TM y.1.now r2 m.2) HY bg wJ ah ?_;intro g9 n9 w9 vN nK));(refine hidS hK (hS.trans (nK.mono hS.size)) (fun hS=>?_);clear hK K);(try simp only[pt]);((have Bt:=Lib.hid (vN.le (base':=w3.heap.size) adn));(clear vN));(refine aK 21 (oi:=⟨some 60,_,_,_,_,_⟩) rfl aj rfl (fun K hK=>?_));(go_simp;(with_reducible refine(MU _ oQ d _ _ (OY.out.av.below hS) hdr (zn _ _ _) ah).mono ?_);rintro en uH ⟨v10,rfl,zV,pV⟩;(have hS:=hS.trans (Below.mono pV hS.size));(obtain⟨yM,m10,n10,rfl⟩:=zV.sl.is);(have qp:=Lib.hid (zV.le (base':=w3.heap.size) adB));(have EO:=Lib.hid (Bt.out.kept pV));(clear zV Bt);(try go_wp2_with fail));(refine hK.out _ _ (fun _=>bF) ?_;clear hK K);(try simp only[pt]);(refine tk 22 61 hS ?_);(try simp only[pt]);(refine aT 23 aj ?_ rfl);(simp only[List.toList_toArray,List.drop_succ_cons,List.drop_zero]);((have xU:=Lib.hid (G7.out.below hS G7.out.lt));(obtain⟨hcq,Ov,hlq,hnq,Oq⟩:=aC.rules xU.out);(have vX:=MR.MP (m:=n+i+1) xU.out (OY.out.below hS) (HA1.out w.heap.size ah (HM.out.away (Nat.le_refl _))) (HP.out.below (fJ.trans (hS.mono fJ.size))) hi qp.out.sl (iF qp.out ah) EO.out.sl (iF EO.out ah) aR ah);(have HS5:=Lib.hid vX);(have HBS:=Lib.hid (show Below w.heap.size w (uH.setCell ⟨w.heap.size,9,none⟩ (.slice yM m10 n10)) from Below.setCell (fJ.trans (hS.mono fJ.size)) (Nat.le_refl _) _));(clear vX);go_wp2_with fail;(refine AJ.of ao g9 n9 yM m10 n10 ⟨HS5.out.1,HS5.out.2,fun B hB=>⟨iF qp.out hB,iF EO.out hB⟩,HBS.out,aA (ay hS _) (aM _ _ _ _)⟩ ?_);with_reducible rfl))))
    rintro ao g9 n9 yM m10 n10 w4 ⟨hk4,Ir,aif,nU,hg4⟩
    have TS:=Lib.hid hk4
    have HM4:=Lib.hid Ir
    have abJ:=Lib.hid aif
    have hlt2:=Oz.out.lt
    have alj:=vV.out.lt
    have aks:=Lib.hid (KRT.out.grown hg4 JK)
    have air:=Lib.hid (KST.out.grown hg4 JK)
    have KM4:=Lib.hid (KM3.out.grown hg4 JK)
    have Iw:=Lib.hid (Jw.out.grown hg4 JK)
    have vT:=hg4.size
    have ahV:=Ir.kr d uu y huu hy
    have akF:=Lib.hid ahV
    have hkf:Fit y.1:=hfi.seats y (List.mem_of_getElem? hy)
    have ak':(ql ss2 h1.seats).length=h1.seats.length:=ku Ir.nX
    have hlen1:=hfi.len
    clear hk4 Ir aif ahV hcb bn hlb hnb hmb hcm hfm hlm hnm hmm hcr hfr Xr hnr afI hcs hfs hls hns ajX
    have hlz:w.heap.size<w4.heap.size:=ah
    have ae5:w.heap.size≤w4.heap.size:=ah
    (obtain⟨hcb,bn,hlb,hnb,hmb⟩:=aC.rules TS.out)
    (obtain⟨hcm,hfm,hlm,hnm,hmm⟩:=aC.rules KM4.out)
    (obtain⟨hcr,hfr,Xr,hnr,afI⟩:=aC.rules aks.out)
    go_wp2_with fail
    ((refine aY (fun W=>Below w4.heap.size w4 W) (fun i=>decide (i<12)) aj ?_);
                (have hS:Below w4.heap.size w4 w4.drew:=(Below.refl _ _).drew);
                (refine tk 0 62 hS ?_);
                (refine tk 1 63 hS ?_ (hy:=Or.inl ⟨aF,abk⟩));
                (refine tk 2 64 hS ?_);
                (refine tk 3 65 hS ?_ (hy:=Or.inl ⟨aF,abk⟩));
                (refine cO 4 (oi:=⟨some 66,_,_,_,_,_⟩) rfl aj _root_.sx hS (dx 59 _ rfl (xC uu y.1 (sx y.2.1 y.2.2)) eF JA aF bg (fun W hs=>air.out.below hs air.out.lt)) ?_);
                (try simp only[pt]);
                (refine tk 5 67 hS ?_);
                (refine tk 6 68 hS ?_ (hy:=Or.inl ⟨aF,abk⟩));
                (refine tk 7 69 hS ?_);
                (refine tk 8 70 hS ?_ (hy:=Or.inl ⟨aF,abk⟩));
                (refine aK 9 (oi:=⟨some 71,_,_,_,_,_⟩) rfl aj rfl (fun K hK=>?_));
                (go_simp;(with_reducible refine(Oj uu y.1 y.2.1 y.2.2 r2 m.2 _ (akF.out.below hS) hkf hmw.2).mono ?_);rintro en w5 ⟨s5,rfl,LU,DU,hb5⟩;(have hS:=hS.trans (Below.mono hb5 hS.size));(have L9:=Lib.hid LU);(have ED:=Lib.hid DU);(try go_wp2_with fail));
                (refine hK.out _ _ (fun _=>bF) ?_;clear hK K);
                (try simp only[pt]);
                (refine aK 10 (oi:=⟨some 72,_,_,_,_,_⟩) rfl aj rfl (fun K hK=>?_));
                (go_simp;(with_reducible refine(FP _ (ql ss2 h1.seats) d s5 (ji y.1 r2 m.2 y.1.now) y.2.1 y.2.2 _ (HM4.out.sv.below hS) ah L9.out ah).mono ?_);rintro en w6 ⟨v6,rfl,OL,hb6⟩;(have hS:=hS.trans (Below.mono hb6 hS.size));(obtain⟨a6,m6,n6,rfl⟩:=OL.sl.is);(have OX:=Lib.hid (OL.le (base':=w4.heap.size) XQ));(have XH:=Lib.hid (L9.out.below hb6));(clear OL LU DU);(try go_wp2_with fail));
                (refine hK.out _ _ (fun _=>bF) ?_;clear hK K);
                (try simp only[pt]);
                (refine tk 11 73 hS ?_);
                (refine aT 12 aj ?_ rfl);
                (simp only[List.toList_toArray,List.drop_succ_cons,List.drop_zero]))
    have yc:=Lib.hid (TS.out.below hS TS.out.lt)
    have vW:=MR.Ce (d:=d) (u:=s5) (x:=(ji y.1 r2 m.2 y.1.now,y.2)) yc.out (HM4.out.below hS) ((HA1.out w.heap.size ah (HM.out.away (Nat.le_refl _))).setRow (abJ.out w.heap.size ah).1 (abJ.out w.heap.size ah).2) (HP.out.below (nU.trans (hS.mono ae5))) hi OX.out.sl (iF OX.out ah) XH.out (ED.out w.heap.size BM ((HA1.out w.heap.size ah (HM.out.away (Nat.le_refl _))).kr d uu y huu hy))
    have LD:=Lib.hid vW
    have KZ7:=Lib.hid ((Iw.out.below hS Iw.out.lt).other ⟨w.heap.size,8,none⟩ (.slice a6 m6 n6) aI)
    have harr:qZ h1 (d:Int) r2 m.2={h1 with seats:=h1.seats.set d (ji y.1 r2 m.2 y.1.now,y.2)}:=by unfold qZ;rw[Int.toNat_natCast,hy]
    have ags:=Lib.hid (qo.trans harr)
    have HMA:=Lib.hid (show∀B,B<w.heap.size+2→gG B s h→gG B ⟨.slice a6 m6 n6,ss2.set d s5,.slice yM m10 n10,oQ.set d (.slice (some ⟨g9,0,none⟩) (gl.length+1) n9),DV.set d (gl++[TM y.1.now r2 m.2])⟩ {h1 with seats:=h1.seats.set d (ji y.1 r2 m.2 y.1.now,y.2)} from fun B hB ha=>((HA1.out B hB ha).setRow (abJ.out B ah).1 (abJ.out B ah).2).Ao HM4.out.nX (iF OX.out ah) (ED.out B BM ((HA1.out B hB ha).kr d uu y huu hy)))
    have TY:=Lib.hid (show Below w.heap.size w (w6.setCell ⟨w.heap.size,8,none⟩ (.slice a6 m6 n6)) from Below.setCell (nU.trans (hS.mono ae5)) (Nat.le_refl _) _)
    clear vW harr qo hcb bn hlb hnb hmb hcm hfm hlm hnm hmm hcr hfr Xr hnr afI
    (obtain⟨hcb,bn,hlb,hnb,hmb⟩:=aC.rules yc.out)
    go_wp2_with fail
    generalize World.setCell _ _ _=w7 at LD KZ7 TY⊢
    go_roundw
    case rel=>exact⟨i+1,_,ah,bI,by rw[ags.out];exact LD.out.1,KZ7.out,by rw[ags.out];exact LD.out.2.mono ah,by rw[ags.out];exact HMA.out,TY.out⟩
    case measure=>simp[intOf];omega
  ·have hie:i=x.1.se.length:=by omega
   subst hie
   rw[List.take_length] at vV HM1 HA1
   have hv:=mJ (HP.out.below hbw) hi HM1.out
   have HV:=Lib.hid hv
   have hdn:decide ((x.1.se.length:Int)<x.1.se.length)=false:=decide_eq_false ah
   generalize gL p who h x.1.se=h2 at*
   have hsz1:=jL pv wv cv iv p s' h2
   have hsz0:hC0.size=11:=rfl
   clear hv
   go_wp2_with(first|((with_reducible refine bS 36 ?_);(refine aJ rfl 36 _ rfl (hC pv wv cv iv p s' h2) d_ (HV.out) vV.out ?_ ?_;(exact aG)))|((with_reducible refine bO 36 ?_);(refine aN rfl 36 _ _ rfl Bq.out (.agg (hC pv wv cv iv p s' h2)) d_ (HV.out) ?_ (_) (gJ 11 mY ()) ?_ ?_ ?_;(exact fK);(exact aG);(exact aG);(intro GR jD jT tq eP;(have kY:=Lib.hid jD))))|fail)
   have hfr:=HM1.out.bL (R:=w.heap.size+1) (ks:=tO) (HA1.out (w.heap.size+1) ah (HM.out.away ah)) Bq.out rfl aB aB aB aB jT
   exact iP Tryz.results63 d_ HV.out aF kY.out rfl ⟨s',rfl,hfr,fun B hB h=>HA1.out B ah h,HB1.out.trans (eP.mono ah)⟩
end Go.Proofs.YtgmodehldmahiaaGreatDoor
