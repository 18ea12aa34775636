/- Part 2 of 6 (beside the texts B) of the proof of topWindows_holds. Conditions: see each. -/
import Derived.Test.YtgmodehldmahiaaGreatDoorF01
import Derived.Test.YtgmodehldmahiaaGreatDoorB11
set_option linter.unusedVariables false
set_option linter.unusedSimpArgs false
set_option maxRecDepth 8192
set_option maxHeartbeats 40000000
namespace Go.Proofs.YtgmodehldmahiaaGreatDoor.bF
open Go Go.RowKit Go.Tm
end Go.Proofs.YtgmodehldmahiaaGreatDoor.bF
namespace Go.Proofs.YtgmodehldmahiaaGreatDoor.bF
open Go Go.RowKit Go.Tm
end Go.Proofs.YtgmodehldmahiaaGreatDoor.bF
namespace Go.Proofs.YtgmodehldmahiaaGreatDoor.bF
open Go Go.RowKit Go.Tm
end Go.Proofs.YtgmodehldmahiaaGreatDoor.bF
namespace Go.Proofs.YtgmodehldmahiaaGreatDoor.bF
open Go Go.RowKit Go.Tm
end Go.Proofs.YtgmodehldmahiaaGreatDoor.bF
namespace Go.Proofs.YtgmodehldmahiaaGreatDoor.bF
open Go Go.RowKit Go.Tm
theorem auQ(m a b c:Int){k:Nat}(h:k<3):∃x:Int,(#[.int .i64 m,.int .i64 a,.int .i64 b,.int .i64 c]:Array Value)[1+k]?=some (.int .i64 x)∧(k=0→x=a)∧(k=1→x=b)∧(k=2→x=c):=by
 match k,h with
 |0,_=>exact⟨a,rfl,asR,asR,asR⟩
 |1,_=>exact⟨b,rfl,asR,asR,asR⟩
 |2,_=>exact⟨c,rfl,asR,asR,asR⟩
set_option maxRecDepth 100000 in
set_option maxHeartbeats 40000000 in
theorem aty(pv wv cv:Value)(p:jE)(w:World)(hp:jf w pv wv cv p):
  Calls Tryz.prog 64 #[I6 pv wv cv p] w fun e w'=>(∃k,e=.returned (.int .i64 k)∧(k=0↔gJ p))∧Below w.heap.size w w':=by
 have HP:=ah hp
 obtain⟨a1,c1,a2,c2,a3,c3,rfl,rfl,rfl,jO,hl2,qM⟩:=hp.shape
 clear hp
 by_cases h1:p.parts.length≤4
 case neg=>as_aux_lemma=>
  have h1':(4:Int)<p.parts.length:=asQ
  have d1:decide (4<p.parts.length)=true:=asX
  have HN:=ah (show¬gJ p from fun h=>absurd h.zX h1)
  exact aug
 have h1':¬(4:Int)<p.parts.length:=asQ
 have d1:decide (4<p.parts.length)=false:=asX
 by_cases h2:p.wins.length≤3
 case neg=>as_aux_lemma=>
  have h2':(3:Int)<p.wins.length:=asQ
  have d2:decide (3<p.wins.length)=true:=asX
  have HN:=ah (show¬gJ p from fun h=>absurd h.anW h2)
  exact aug
 have h2':¬(3:Int)<p.wins.length:=asQ
 have d2:decide (3<p.wins.length)=false:=asX
 by_cases h3:p.chans.length≤6
 case neg=>as_aux_lemma=>
  have h3':(6:Int)<p.chans.length:=asQ
  have d3:decide (6<p.chans.length)=true:=asX
  have HN:=ah (show¬gJ p from fun h=>absurd h.Cn h3)
  exact aug
 have h3':¬(6:Int)<p.chans.length:=asQ
 have d3:decide (6<p.chans.length)=false:=asX
 go_enter Tryz.func64,Tryz.ntmps64
 go_wp2_with fail
 have jo:=aD.new w #[.slice a1 p.parts.length c1,.int .i64 p.frame,.slice a2 p.wins.length c2,.slice a3 p.chans.length c3] 26
 have hx1:Below w.heap.size w (w.alloc (.cells #[.slice a1 p.parts.length c1,.int .i64 p.frame,.slice a2 p.wins.length c2,.slice a3 p.chans.length c3] 26)):=(Below.refl _ _).alloc (Nat.le_refl _) _
 have hz1:(w.alloc (.cells #[.slice a1 p.parts.length c1,.int .i64 p.frame,.slice a2 p.wins.length c2,.slice a3 p.chans.length c3] 26)).heap.size=w.heap.size+1:=asR
 generalize hW1:w.alloc (.cells #[.slice a1 p.parts.length c1,.int .i64 p.frame,.slice a2 p.wins.length c2,.slice a3 p.chans.length c3] 26)=w1 at*
 clear hW1
 have XF:=ah jo
 obtain⟨hc1,mF,auS,mE,oz⟩:=jo.rules
 clear jo
 have HPL:=ah (HP.out.below hx1)
 go_loopw [3,4] (fun s t W=>∃(i:Nat) (b:Bool),i≤p.wins.length∧s=.bool b∧t=.int .i64 i∧RowKit.Hid (b=false→∀j l,j<i→p.wins[j]?=some l→l.length≤8)∧RowKit.Hid (b=true→¬gJ p)∧W=w1) (fun _ t _=>p.wins.length-(intOf t).toNat)
 case atStart=>exact⟨0,false,Nat.zero_le _,rfl,rfl,ah (by intro _ j l h;omega),ah atv,rfl⟩
 case round=>as_aux_lemma=>
  obtain⟨i,b,hi,rfl,rfl,HSM,HBG,rfl⟩:=hrel
  obtain⟨w1,rfl⟩:∃x,x=wr:=⟨_,rfl⟩
  have hwi:IntKind.i64.wrap ((i:Int)+1)=i+1:=IntWalk.i64_in _ asQ
  by_cases hlt:i<p.wins.length
  case pos=>as_aux_lemma=>
   cases b
   ·obtain⟨l,hl⟩:∃l,p.wins[i]?=some l:=⟨_,List.getElem?_eq_getElem hlt⟩
    obtain⟨b,off,a5,c5,rfl,hb,hcell,Ug,hsl⟩:=vB.at HPL.out.wins hl
    have HLI:=ah hl
    clear hl hsl
    by_cases h8:8<l.length
    ·have d8:decide ((8:Int)<l.length)=true:=by simp;omega
     have HN:=ah (show¬gJ p from fun h=>by have:=h.anV l (List.mem_of_getElem? HLI.out);omega)
     go_wp2_with fail
     go_roundw
     case rel=>exact⟨i+1,true,asQ,rfl,asU,ah atv,ah (fun _=>HN.out),atA⟩
     case measure=>simp[intOf];omega
    ·have d8:decide ((8:Int)<l.length)=false:=by simp;omega
     go_wp2_with fail
     go_roundw
     case rel=>
      refine⟨i+1,false,asQ,rfl,asU,ah ?_,ah atv,atA⟩
      intro _ j m hj hm
      rcases Nat.lt_succ_iff_lt_or_eq.1 hj with hj|rfl
      ·exact HSM.out rfl j m hj hm
      ·rw[HLI.out] at hm;cases hm;omega
     case measure=>simp[intOf];omega
   ·go_wp2_with fail
    go_roundw
    case rel=>exact⟨i+1,true,asQ,rfl,asU,ah atv,ah (fun _=>auw),atA⟩
    case measure=>simp[intOf];omega
  obtain rfl:i=p.wins.length:=by omega
  cases b
  case true=>
   go_wp2_with fail
   go_ret
   exact⟨⟨4,asR,by constructor;(intro h;omega);(intro h;exact absurd h auw)⟩,hx1⟩
  have H4:=ah (show∀l∈p.wins,l.length≤8 from fun l hl=>by
   obtain⟨j,hj,he⟩:=List.mem_iff_getElem.1 hl
   exact HSM.out rfl j l hj atB)
  clear HSM HBG hlt hi
  by_cases h5:p.parts.length=0
  case pos=>as_aux_lemma=>
   go_wp2_with fail
   go_ret
   exact⟨⟨1,asR,by constructor;(intro h;omega);(intro h;exact absurd h5 h.VN)⟩,hx1⟩
  have e5:((p.parts.length:Int)==0)=false:=by rw[beq_eq_false_iff_ne];omega
  by_cases h6:p.wins.length=0
  case pos=>as_aux_lemma=>
   go_wp2_with fail
   go_ret
   exact⟨⟨1,asR,by constructor;(intro h;omega);(intro h;exact absurd h6 h.anX)⟩,hx1⟩
  have e6:((p.wins.length:Int)==0)=false:=by rw[beq_eq_false_iff_ne];omega
  go_wp2_with fail
  go_loopw [5] (fun t W=>∃i:Nat,i≤p.parts.length∧t=.int .i64 i∧(∀j x,j<i→p.parts[j]?=some x→q9 x)∧Below w1.heap.size w1 W) (fun t _=>p.parts.length-(intOf t).toNat)
  case atStart=>exact⟨0,Nat.zero_le _,rfl,by intro j x h;omega,Below.refl _ _⟩
  case round=>as_aux_lemma=>
   obtain⟨i,hi,rfl,iq,bZ⟩:=hrel
   have HPR:=ah iq
   clear iq
   have Bj:=bZ.size
   obtain⟨wo,rfl⟩:∃x,x=wr:=⟨_,rfl⟩
   have jo:=aD.below XF.out bZ XF.out.lt
   obtain⟨hc2,hf2,att,rD,nS⟩:=jo.rules
   have ab8:=ah jo
   clear jo
   have hwi:IntKind.i64.wrap ((i:Int)+1)=i+1:=IntWalk.i64_in _ asQ
   by_cases hlt:i<p.parts.length
   case pos=>as_aux_lemma=>
    obtain⟨⟨m,a,b,c⟩,hx⟩:∃x,p.parts[i]?=some x:=⟨_,List.getElem?_eq_getElem hlt⟩
    obtain⟨b2,nU,rfl,hb2,q0,q1,q2,q3⟩:=Sl.pt (HPL.out.parts.below bZ) hx
    have HXI:=ah hx
    clear hx
    dsimp only at q0 q1 q2 q3
    by_cases m1:m<64
    case pos=>as_aux_lemma=>
     exact auf
    have m1d:decide (m<64)=false:=by simpa using m1
    by_cases m2:1024<m
    case pos=>as_aux_lemma=>
     exact auf
    have m2d:decide (1024<m)=false:=by simpa using m2
    have mt:m.tmod 4=m%4:=Int.tmod_eq_emod_of_nonneg asQ
    by_cases m3:m%4=0
    case neg=>as_aux_lemma=>
     have m3d:(m%4 !=0)=true:=by simpa using m3
     exact auf
    have m3d:(m%4 !=0)=false:=by simpa using m3
    go_wp2_with fail
    have hbp:=aD.new wo (#[.int .i64 m,.int .i64 a,.int .i64 b,.int .i64 c]:Array Value) 74
    have hx3:Below w1.heap.size w1 (wo.alloc (.cells #[.int .i64 m,.int .i64 a,.int .i64 b,.int .i64 c] 74)):=bZ.alloc Bj _
    generalize hW3:wo.alloc (.cells #[.int .i64 m,.int .i64 a,.int .i64 b,.int .i64 c] 74)=w3 at*
    clear hW3 hc2 hf2 att rD nS
    obtain⟨hc3,hf3,aqf,wX,qL⟩:=hbp.rules
    have HC3:=ah hc3
    clear hbp hc3
    go_loopw [7] (fun t W=>∃k:Nat,k≤3∧t=.int .i64 k∧RowKit.Hid ((0<k→1≤a∧a≤3)∧(1<k→1≤b∧b≤3)∧(2<k→1≤c∧c≤3))∧W=w3) (fun t _=>3-(intOf t).toNat)
    case atStart=>exact⟨0,asQ,rfl,ah ⟨asQ,asQ,asQ⟩,rfl⟩
    case round=>as_aux_lemma=>
     obtain⟨k,hk,rfl,HAC,rfl⟩:=hrel
     obtain⟨w3,rfl⟩:∃x,x=wr:=⟨_,rfl⟩
     have hwk:IntKind.i64.wrap ((k:Int)+1)=k+1:=IntWalk.i64_in _ asQ
     by_cases hk3:k<3
     case pos=>as_aux_lemma=>
      obtain⟨y,hy,y0,y1,y2⟩:=auQ m a b c hk3
      have BK:=(HC3.out (1+k)).trans hy
      have HY:=ah (And.intro y0 (And.intro y1 y2))
      clear hy y0 y1 y2
      by_cases r1:y<1
      case pos=>as_aux_lemma=>
       exact auB
      have r1d:decide (y<1)=false:=by simpa using r1
      by_cases r2:3<y
      case pos=>as_aux_lemma=>
       exact auB
      have r2d:decide (3<y)=false:=by simpa using r2
      have HRR:=ah (And.intro r1 r2)
      go_wp2_with fail
      go_roundw
      case rel=>
       refine⟨k+1,asQ,asU,ah ?_,atA⟩
       obtain⟨y0,y1,y2⟩:=HY.out
       obtain⟨z0,z1,z2⟩:=HAC.out
       obtain⟨r1,r2⟩:=HRR.out
       rcases(show k=0∨k=1∨k=2 by omega) with e|e|e
       ·have:=y0 e;refine⟨fun _=>asQ,fun _=>asQ,fun _=>asQ⟩
       ·have:=y1 e;refine⟨fun _=>z0 asQ,fun _=>asQ,fun _=>asQ⟩
       ·have:=y2 e;refine⟨fun _=>z0 asQ,fun _=>z1 asQ,fun _=>asQ⟩
      case measure=>simp[intOf];omega
     obtain rfl:k=3:=by omega
     have HPO:=ah (show q9 (m,a,b,c) from by
      obtain⟨z0,z1,z2⟩:=HAC.out
      have:=z0 asQ
      have:=z1 asQ
      have:=z2 asQ
      unfold q9
      dsimp only
      omega)
     go_wp2_with fail
     go_roundw
     case rel=>
      refine⟨i+1,asQ,asU,?_,hx3⟩
      intro j x hj hx
      rcases Nat.lt_succ_iff_lt_or_eq.1 hj with hj|rfl
      ·exact HPR.out j x hj hx
      ·rw[HXI.out] at hx;cases hx;exact HPO.out
     case measure=>simp[intOf];omega
   have H7:=ah (show∀x∈p.parts,q9 x from fun x hx=>by
    obtain⟨j,hj,he⟩:=List.mem_iff_getElem.1 hx
    exact HPR.out j x asQ atB)
   clear HPR
   by_cases h8:p.frame<1
   case pos=>as_aux_lemma=>
    go_wp2_with fail
    go_ret
    exact⟨⟨1,asR,by constructor;(intro h;omega);(intro h;have:=h.ad9;omega)⟩,hx1.trans (bZ.mono hx1.size)⟩
   have d8:decide (p.frame<1)=false:=by simpa using h8
   by_cases h9:4096<p.frame
   case pos=>as_aux_lemma=>
    go_wp2_with fail
    go_ret
    exact⟨⟨1,asR,by constructor;(intro h;omega);(intro h;have:=h.Fv;omega)⟩,hx1.trans (bZ.mono hx1.size)⟩
   have d9:decide (4096<p.frame)=false:=by simpa using h9
   have HF:=ah (And.intro (show 1≤p.frame by omega) (show p.frame≤4096 by omega))
   go_wp2_with fail
   have HPO:=ah (HPL.out.below bZ)
   have hX1:Below w.heap.size w wo:=hx1.trans (bZ.mono hx1.size)
   clear hc2 hf2 att rD nS hc1 mF auS mE oz hx1 bZ hlt Bj HPL XF
   go_loopw [8] (fun t W=>∃i:Nat,i≤p.wins.length∧t=.int .i64 i∧RowKit.Hid (∀j l,j<i→p.wins[j]?=some l→Gs p.parts.length p.frame 0 l)∧Below wo.heap.size wo W) (fun t _=>p.wins.length-(intOf t).toNat)
   case atStart=>exact⟨0,Nat.zero_le _,rfl,ah (by intro j l h;omega),Below.refl _ _⟩
   case round=>as_aux_lemma=>
    clear hi hwi
    obtain⟨i,hi,rfl,HR,bZ⟩:=hrel
    have Bj:=bZ.size
    obtain⟨wa,rfl⟩:∃x,x=wr:=⟨_,rfl⟩
    have hX:Below w.heap.size w wa:=hX1.trans (bZ.mono hX1.size)
    have HBA:=ah (aD.below ab8.out bZ ab8.out.lt)
    have HPA:=ah (HPO.out.below bZ)
    have HBW:=ah bZ
    clear bZ
    by_cases hlt:i<p.wins.length
    case pos=>as_aux_lemma=>
     obtain⟨l,hl⟩:∃l,p.wins[i]?=some l:=⟨_,List.getElem?_eq_getElem hlt⟩
     obtain⟨b,off,a5,c5,rfl,hb,hcell,Ug,hsl⟩:=vB.at HPA.out.wins hl
     have HLI:=ah hl
     have HSL:=ah hsl
     have qP:=ah hcell
     have hwi:IntKind.i64.wrap ((i:Int)+1)=i+1:=IntWalk.i64_in _ asQ
     obtain⟨hc2,hf2,att,rD,nS⟩:=HBA.out.rules
     clear hl hsl
     go_wp2_with fail
     clear hc2 hf2 att rD nS hcell
     go_loopw [9] (fun t W=>∃(k:Nat) (b0:Int),k≤l.length∧t=.int .i64 k∧RowKit.Hid (Gs p.parts.length p.frame 0 l↔Gs p.parts.length p.frame b0 (l.drop k))∧RowKit.Hid ((k=0∧b0=0)∨∃y,0<k∧l[k-1]?=some y∧b0=y.2.1+y.2.2∧uf p.parts.length p.frame y)∧Below wa.heap.size wa W) (fun t _=>l.length-(intOf t).toNat)
     case atStart=>exact⟨0,0,Nat.zero_le _,rfl,ah Iff.rfl,ah (.inl ⟨rfl,rfl⟩),Below.refl _ _⟩
     case round=>as_aux_lemma=>
      obtain⟨k,b0,hk,rfl,HIF,HPV,hby⟩:=hrel
      have aoZ:=hby.size
      have yT:=aD.below HBA.out hby HBA.out.lt
      obtain⟨hc2,hf2,att,rD,nS⟩:=yT.rules
      have HBB:=ah yT
      have hcell:=(hby.cell (p:=⟨b,off+i,none⟩) hb).trans qP.out
      have hbl:=hb
      clear yT
      by_cases hkl:k<l.length
      case pos=>as_aux_lemma=>
       obtain⟨⟨xp,xf,xl⟩,hx⟩:∃x,l[k]?=some x:=⟨_,List.getElem?_eq_getElem hkl⟩
       obtain⟨b2,nU,rfl,hb2,q0,q1,q2⟩:=Sl.wn (HSL.out.below hby) hx
       have UJ:=ah (Ww (n:=p.parts.length) (frame:=p.frame) (b:=b0) hx)
       have HXK:=ah hx
       have hwk:IntKind.i64.wrap ((k:Int)+1)=k+1:=IntWalk.i64_in _ asQ
       have hne:¬b=wr.heap.size:=asQ
       have akg:¬b2=wr.heap.size:=asQ
       clear hx
       dsimp only at q0 q1 q2
       by_cases x1:xp<0
       case pos=>as_aux_lemma=>
        exact atp
       have x1d:decide (xp<0)=false:=by simpa using x1
       by_cases x2:(p.parts.length:Int)≤xp
       case pos=>as_aux_lemma=>
        exact atp
       have x2d:decide ((p.parts.length:Int)≤xp)=false:=by simpa using x2
       by_cases x3:xf<0
       case pos=>as_aux_lemma=>
        exact atp
       have x3d:decide (xf<0)=false:=by simpa using x3
       by_cases x4:p.frame<xf
       case pos=>as_aux_lemma=>
        exact atp
       have x4d:decide (p.frame<xf)=false:=by simpa using x4
       by_cases x5:xl<3
       case pos=>as_aux_lemma=>
        exact atp
       have x5d:decide (xl<3)=false:=by simpa using x5
       have sK:=HF.out
       have hwf:IntKind.i64.wrap (p.frame-xf)=p.frame-xf:=IntWalk.i64_in _ asQ
       by_cases x6:p.frame-xf<xl
       case pos=>as_aux_lemma=>
        exact atp
       have x6d:decide (p.frame-xf<xl)=false:=by simpa using x6
       have HOK:=ah (show uf p.parts.length p.frame (xp,xf,xl) by unfold uf;dsimp only;omega)
       go_wp2_with fail
       have Am:=aD.new wr (#[.int .i64 xp,.int .i64 xf,.int .i64 xl]:Array Value) 76
       have hy4:Below wa.heap.size wa (wr.alloc (.cells #[.int .i64 xp,.int .i64 xf,.int .i64 xl] 76)):=hby.alloc aoZ _
       have hb4:Below wr.heap.size wr (wr.alloc (.cells #[.int .i64 xp,.int .i64 xf,.int .i64 xl] 76)):=(Below.refl _ _).alloc (Nat.le_refl _) _
       have xU:(wr.alloc (.cells #[.int .i64 xp,.int .i64 xf,.int .i64 xl] 76)).heap.size=wr.heap.size+1:=asR
       generalize XB:wr.alloc (.cells #[.int .i64 xp,.int .i64 xf,.int .i64 xl] 76)=w4 at*
       clear XB
       have hbr:b<wr.heap.size:=Nat.lt_of_lt_of_le hb aoZ
       have au4:b<w4.heap.size:=asQ
       have g0:=aD.Ar Am
       have g1:=aD.Ar (aD.below HBB.out hb4 HBB.out.lt)
       have g2:=oH ((hb4.cell (p:=⟨b,off+i,none⟩) hbr).trans hcell) au4
       clear hc2 hf2 att rD nS q0 q1 q2 hcell
       by_cases MU:k=0
       ·have au2:decide (0<k)=false:=by simp;omega
        have au1:decide ((0:Int)<k)=false:=asX
        ((refine wp_region_quiet_below asS asS ?_);(repeat(go_big_quiet_step (fail)));(refine wpQuiet_nil ?_);intro _ hw';obtain⟨⟨dq,osq⟩,hw''⟩:=hw';subst hw'';have pE:=below_regrown w4 dq osq;generalize Go.Sort.grow (redrawn w4 dq) osq=w7 at*;have LC:=pE.size)
        clear g0 g1 g2
        go_wp2_with fail
        go_roundw
        case rel=>
         refine⟨k+1,xf+xl,asQ,asU,ah ?_,ah (.inr ⟨(xp,xf,xl),asQ,by simpa using HXK.out,rfl,HOK.out⟩),hy4.trans (pE.mono asQ)⟩
         rw[HIF.out,UJ.out]
         have yg:b0=0:=by
          rcases HPV.out with h|⟨y,h,_⟩
          ·exact h.2
          ·omega
         exact⟨fun h=>h.2.2,fun h=>⟨HOK.out,by show b0≤xf;omega,h⟩⟩
        case measure=>simp[intOf];omega
       ·obtain⟨j,rfl⟩:∃j,k=j+1:=⟨k-1,asQ⟩
        obtain⟨⟨yp,yf,yl⟩,_,hyj,hb0,auE⟩:∃y:Wn,0<j+1∧l[j]?=some y∧b0=y.2.1+y.2.2∧uf p.parts.length p.frame y:=by
         rcases HPV.out with h|⟨y,h1,h2,h3⟩
         ·omega
         ·exact⟨y,h1,by simpa using h2,h3⟩
        unfold uf at auE
        dsimp only at hb0 auE
        obtain⟨_,_,he,_,r0,r1,r2⟩:=Sl.wn (HSL.out.below hy4) hyj
        simp only[Option.some.injEq,Addr.mk.injEq,and_true] at he
        obtain⟨rfl,rfl⟩:=he
        have g3:=oH r1 asQ
        have g4:=oH r2 asQ
        have au2:decide (0<j+1)=true:=asR
        have au1:decide ((0:Int)<(j:Int)+1)=true:=decide_eq_true asQ
        have hwj:IntKind.i64.wrap ((j:Int)+1-1)=j:=by rw[IntWalk.i64_in _ asQ];omega
        have hwy:IntKind.i64.wrap (yf+yl)=yf+yl:=IntWalk.i64_in _ asQ
        have HB0:=ah hb0
        clear r0 r1 r2 hyj auE hb0
        by_cases QX:xf<yf+yl
        ·have wY:decide (xf<yf+yl)=true:=by simpa using QX
         have HN:=ah (show¬gJ p from fun h=>by
          have h':=(UJ.out.1 (HIF.out.1 (h.rows l (List.mem_of_getElem? HLI.out)))).2.1
          have:=HB0.out
          try dsimp only at h'
          omega)
         ((refine wp_region_quiet_below asS asS ?_);(repeat(go_big_quiet_step (fail)));(refine wpQuiet_nil ?_);intro _ hw';obtain⟨⟨dq,osq⟩,hw''⟩:=hw';subst hw'';have pE:=below_regrown w4 dq osq;generalize Go.Sort.grow (redrawn w4 dq) osq=w7 at*;have LC:=pE.size)
         clear g0 g1 g2 g3 g4
         go_wp2_with fail
         go_ret
         exact⟨⟨9,asR,ato⟩,hX.trans ((hy4.trans (pE.mono asQ)).mono hX.size)⟩
        ·have wY:decide (xf<yf+yl)=false:=by simpa using QX
         ((refine wp_region_quiet_below asS asS ?_);(repeat(go_big_quiet_step (fail)));(refine wpQuiet_nil ?_);intro _ hw';obtain⟨⟨dq,osq⟩,hw''⟩:=hw';subst hw'';have pE:=below_regrown w4 dq osq;generalize Go.Sort.grow (redrawn w4 dq) osq=w7 at*;have LC:=pE.size)
         clear g0 g1 g2 g3 g4
         go_wp2_with fail
         go_roundw
         case rel=>
          refine⟨j+1+1,xf+xl,asQ,asU,ah ?_,ah (.inr ⟨(xp,xf,xl),asQ,by simpa using HXK.out,rfl,HOK.out⟩),hy4.trans (pE.mono asQ)⟩
          rw[HIF.out,UJ.out]
          have:=HB0.out
          exact⟨fun h=>h.2.2,fun h=>⟨HOK.out,by show b0≤xf;omega,h⟩⟩
         case measure=>simp[intOf];omega
      obtain rfl:k=l.length:=by omega
      have HRO:=ah (HIF.out.2 (by rw[List.drop_length];trivial))
      go_wp2_with fail
      go_roundw
      case rel=>
       refine⟨i+1,asQ,asU,ah ?_,HBW.out.trans (hby.mono Bj)⟩
       intro j m hj hm
       rcases Nat.lt_succ_iff_lt_or_eq.1 hj with hj|rfl
       ·exact HR.out j m hj hm
       ·rw[HLI.out] at hm;cases hm;exact HRO.out
      case measure=>simp[intOf];omega
    obtain rfl:i=p.wins.length:=by omega
    have HRW:=ah (show∀l∈p.wins,Gs p.parts.length p.frame 0 l from fun l hl=>by
     obtain⟨j,hj,he⟩:=List.mem_iff_getElem.1 hl
     exact HR.out j l hj atB)
    obtain⟨hc2,hf2,att,rD,nS⟩:=HBA.out.rules
    go_wp2_with fail
    clear hc2 hf2 att rD nS
    go_loopw [11] (fun t W=>∃i:Nat,i≤p.chans.length∧t=.int .i64 i∧RowKit.Hid (∀j x,j<i→p.chans[j]?=some x→lU p.parts.length x)∧Below wa.heap.size wa W) (fun t _=>p.chans.length-(intOf t).toNat)
    case atStart=>exact⟨0,Nat.zero_le _,rfl,ah (by intro j l h;omega),Below.refl _ _⟩
    case round=>as_aux_lemma=>
     clear hi hlt
     obtain⟨i,hi,rfl,HR3,hbc⟩:=hrel
     have auZ:=hbc.size
     have yT:=aD.below HBA.out hbc HBA.out.lt
     obtain⟨hc2,hf2,att,rD,nS⟩:=yT.rules
     clear yT
     by_cases hlt:i<p.chans.length
     case pos=>as_aux_lemma=>
      obtain⟨⟨kd,f,t,s,d⟩,hx⟩:∃x,p.chans[i]?=some x:=⟨_,List.getElem?_eq_getElem hlt⟩
      obtain⟨b2,nU,rfl,hb2,q0,q1,q2,q3,q4⟩:=Sl.ch (HPA.out.chans.below hbc) hx
      have HXI:=ah hx
      have hwi:IntKind.i64.wrap ((i:Int)+1)=i+1:=IntWalk.i64_in _ asQ
      have akg:¬b2=wr.heap.size:=asQ
      clear hx
      dsimp only at q0 q1 q2 q3 q4
      by_cases k1:kd=1
      ·subst k1
       by_cases y1:f<0
       case pos=>as_aux_lemma=>
        exact asV
       have y1d:decide (f<0)=false:=by simpa using y1
       by_cases y2:(p.parts.length:Int)≤f
       case pos=>as_aux_lemma=>
        exact asV
       have y2d:decide ((p.parts.length:Int)≤f)=false:=by simpa using y2
       by_cases y3:t<0
       case pos=>as_aux_lemma=>
        exact asV
       have y3d:decide (t<0)=false:=by simpa using y3
       by_cases y4:(p.parts.length:Int)≤t
       case pos=>as_aux_lemma=>
        exact asV
       have y4d:decide ((p.parts.length:Int)≤t)=false:=by simpa using y4
       by_cases asM:f=t
       case pos=>as_aux_lemma=>
        have y5d:(f==t)=true:=by simpa using asM
        exact asV
       have y5d:(f==t)=false:=by simpa using asM
       by_cases y6:s<1
       case pos=>as_aux_lemma=>
        exact asV
       have y6d:decide (s<1)=false:=by simpa using y6
       by_cases asN:32<s
       case pos=>as_aux_lemma=>
        exact asV
       have y7d:decide (32<s)=false:=by simpa using asN
       by_cases y8:d<1
       case pos=>as_aux_lemma=>
        exact asV
       have y8d:decide (d<1)=false:=by simpa using y8
       by_cases asP:8<d
       case pos=>as_aux_lemma=>
        exact asV
       have y9d:decide (8<d)=false:=by simpa using asP
       by_cases y10:d=1
       case neg=>as_aux_lemma=>
        have auX:(d !=1)=true:=by simpa using y10
        exact asV
       have auX:(d !=1)=false:=by simpa using y10
       have HOK:=ah (show lU p.parts.length (1,f,t,s,d) by unfold lU;dsimp only;omega)
       exact auz
      by_cases k2:kd=2
      ·subst k2
       by_cases y1:f<0
       case pos=>as_aux_lemma=>
        exact asV
       have y1d:decide (f<0)=false:=by simpa using y1
       by_cases y2:(p.parts.length:Int)≤f
       case pos=>as_aux_lemma=>
        exact asV
       have y2d:decide ((p.parts.length:Int)≤f)=false:=by simpa using y2
       by_cases y3:t<0
       case pos=>as_aux_lemma=>
        exact asV
       have y3d:decide (t<0)=false:=by simpa using y3
       by_cases y4:(p.parts.length:Int)≤t
       case pos=>as_aux_lemma=>
        exact asV
       have y4d:decide ((p.parts.length:Int)≤t)=false:=by simpa using y4
       by_cases asM:f=t
       case pos=>as_aux_lemma=>
        have y5d:(f==t)=true:=by simpa using asM
        exact asV
       have y5d:(f==t)=false:=by simpa using asM
       by_cases y6:s<1
       case pos=>as_aux_lemma=>
        exact asV
       have y6d:decide (s<1)=false:=by simpa using y6
       by_cases asN:32<s
       case pos=>as_aux_lemma=>
        exact asV
       have y7d:decide (32<s)=false:=by simpa using asN
       by_cases y8:d<1
       case pos=>as_aux_lemma=>
        exact asV
       have y8d:decide (d<1)=false:=by simpa using y8
       by_cases asP:8<d
       case pos=>as_aux_lemma=>
        exact asV
       have y9d:decide (8<d)=false:=by simpa using asP
       have HOK:=ah (show lU p.parts.length (2,f,t,s,d) by unfold lU;dsimp only;omega)
       exact auz
      have k1d:(kd !=1)=true:=by simpa using k1
      have k2d:(kd !=2)=true:=by simpa using k2
      exact asV
     obtain rfl:i=p.chans.length:=by omega
     have HOK:=ah (show gJ p from⟨h1,h2,h3,H4.out,h5,h6,H7.out,HF.out.1,HF.out.2,HRW.out,fun c hc=>by
      obtain⟨j,hj,he⟩:=List.mem_iff_getElem.1 hc
      exact HR3.out j c hj atB⟩)
     go_wp2_with fail
     go_ret
     exact⟨⟨0,asR,fun _=>HOK.out,fun _=>rfl⟩,hX.trans (hbc.mono hX.size)⟩
end Go.Proofs.YtgmodehldmahiaaGreatDoor.bF
