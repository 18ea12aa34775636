/- Part 16 of 53 of the proof of topAlone_and_topApart. Conditions: see each. -/
import Derived.Test.YtgmodehldmahiaaGreatDoorB14
import Derived.Test.YtgmodehldmahiaaGreatDoorB15
set_option linter.unusedVariables false
set_option linter.unusedSimpArgs false
set_option maxRecDepth 8192
set_option maxHeartbeats 40000000
section
namespace Go.Proofs.YtgmodehldmahiaaGreatDoor
open Go Go.RowKit Go.Tm
theorem tT{P:Program}{ops:Array Oper}{rest:List Oper}{o:Oper}{a:Act}{w:World}{Q:Exit→Act→World→Prop}(hgd:o.guard=none)(src dst:TypeId)(q:Operand)(ho:o.op=.convert src dst q)(x:Value)(hq:a.eval q=x)
  {v:Value}{w':World}(hr:(convert src dst x).run P w=.ok v w')(h:wpList P ops Q rest (a.put o.dst v) w'):wpList P ops Q (o::rest) a w:=
 wpList_plain hgd fun K hK=>by
  unfold Oper.wp execOp
  simp only[ho,hq,hr,Sem.run_bind,Sem.run_pure,Result.andThen_ok]
  exact hK _ _ h
def I4(m:ByteArray)(a:Nat)(s:ByteArray):List UInt8:=m.data.toList.take a++s.data.toList++m.data.toList.drop (a+s.size)
def Du(m:ByteArray)(a:Int)(s:ByteArray):ByteArray:=⟨(I4 m a.toNat s).toArray⟩
theorem Nw{m:ByteArray}{a:Nat}{s:ByteArray}(h:a+s.size≤m.size):(I4 m a s).length=m.size:=by
 unfold I4
 simp only[List.length_append,List.length_take,List.length_drop,Array.length_toList,ByteArray.size_data]
 omega
theorem Cq{m:ByteArray}{a:Int}{s:ByteArray}(h:a.toNat+s.size≤m.size):(Du m a s).size=m.size:=by
 have:=Nw h
 show(I4 m a.toNat s).toArray.size=m.size
 simpa using this
theorem Xl{P:Program}(w:World)(src dst e:TypeId)(s:ByteArray)(hs:P.underlying src=some .string)(hd:P.underlying dst=some (.slice e))(he:P.underlying e=some (.int .u8)):
  ∃cap w1,(convert src dst (.string s)).run P w=.ok (.slice (some ⟨w.heap.size,0,none⟩) s.size cap) w1∧s.size≤cap∧Below w.heap.size w w1∧w1.heap.size=w.heap.size+1∧
   (∀j (hj:j<s.size),w1.cell? ⟨w.heap.size,j,none⟩=some (.int .u8 (s.data.toList[j]'(by simpa using hj)).toNat))∧∀j,j<s.size→w1.frozen? ⟨w.heap.size,j,none⟩=false:=by
 refine⟨_,_,run_bytes_of_string w src dst e s hs hd he,?_,?_,?_,?_,?_⟩
 ·exact grownCap_ge w s.size 0 e
 ·exact(Below.refl _ _).drew.alloc (Nat.le_refl _) _
 ·simp
 ·intro j hj
  have hX:∀X,(w.drew.alloc X).heap[w.heap.size]?=some X:=fun X=>by
   show(w.heap.push X)[w.heap.size]?=_
   simp
  have hr:(bytesRow s (grownCap w s.size 0 e))[j]?=some (.int .u8 (s.data.toList[j]'(by simpa using hj)).toNat):=by
   unfold bytesRow
   rw[Array.getElem?_append_left (by simpa using hj)]
   simp[hj]
  unfold World.cell?
  rw[hX]
  exact hr
 ·intro j hj
  have hX:∀X,(w.drew.alloc X).heap[w.heap.size]?=some X:=fun X=>by
   show(w.heap.push X)[w.heap.size]?=_
   simp
  have hr:j<(bytesRow s (grownCap w s.size 0 e)).size:=by
   unfold bytesRow
   simp only[Array.size_append,Array.size_map,ByteArray.size_data]
   omega
  unfold World.frozen?
  rw[hX]
  simp
  omega
theorem ME{P:Program}{t e:TypeId}(ht:P.underlying t=some (.slice e))(hz:∀w,(Go.sizeOf e).run P w=.ok 1 w)(b n cap:Nat)(k:IntKind)(x:Int)(i:Nat)(hx:x=i)(hi:i≤n)(W:World):
  ∃o,(Instr.slice t (.slice (some ⟨b,0,none⟩) n cap) (some (.int k x)) none none).run P W=.ok (.slice (some ⟨b,o,none⟩) (n-i) (cap-i)) W∧(o=i∨cap=i):=by
 subst hx
 by_cases h:cap=i
 ·exact⟨0,by simp[Instr.slice,run_underlying ht,Instr.sliceBounds,Instr.sliceBound,asIntOf,hi,hz,h],.inr h⟩
 ·exact⟨i,by simp[Instr.slice,run_underlying ht,Instr.sliceBounds,Instr.sliceBound,asIntOf,hi,hz,h,Addr.add];intro h0;exact h0.symm,.inl rfl⟩
theorem JI(m:ByteArray)(a:Int)(s:ByteArray)(w:World)(ha:dI a)(vP:a.toNat+s.size≤m.size)(hm:m.size≤9223372036854775807):
  Calls Tryz.prog 176 #[.string m,.int .u32 a,.string s] w fun e w'=>e=.returned (.string (Du m a s))∧Below w.heap.size w w':=by
 obtain⟨ha1,ha2⟩:=ha
 obtain⟨cap,w1,hc1,am5,hb1,hz1,hcell,amZ⟩:=Xl w 9 225 5 m Tryz.underlying9 Tryz.underlying225 Tryz.underlying5
 obtain⟨o,hsl,ho⟩:=ME Tryz.underlying225 Tryz.sizeOf5 w.heap.size m.size cap .u32 a a.toNat aj aj w1
 have hle:s.size≤m.size-a.toNat:=aj
 have o7:s.size=0∨o=a.toNat:=by
  rcases ho with rfl|h
  ·exact .inr rfl
  ·left;omega
 have fF:=run_copy_string (P:=Tryz.prog) w1 225 9 3 5 w.heap.size o (m.size-a.toNat) (cap-a.toNat) s Tryz.underlying225 Tryz.sizeOf5 hle
  (by intro j hj;rcases o7 with h|rfl;·omega
      rw[hcell (a.toNat+j) aj];rfl)
  (by intro j hj;rcases o7 with h|rfl;·omega
      exact amZ _ aj)
 have hend:∀W,W=w1.setCells w.heap.size o (s.data.toList.map fun x=>Value.int .u8 (x.toNat:Int))→(convert 225 9 (.slice (some ⟨w.heap.size,0,none⟩) m.size cap)).run Tryz.prog W=.ok (.string (Du m a s)) W:=by
  rintro W rfl
  have hlen:=Nw vP
  have h:=run_convert_bytes_back (P:=Tryz.prog) (w1.setCells w.heap.size o (s.data.toList.map fun x=>Value.int .u8 (x.toNat:Int))) 225 9 5 ⟨w.heap.size,0,none⟩ cap (I4 m a.toNat s) Tryz.underlying225 Tryz.underlying5 Tryz.underlying9 ?_
  ·rw[hlen] at h;exact h
  ·intro j hj
   rw[hlen] at hj
   have aj8:(s.data.toList.map fun x=>Value.int .u8 (x.toNat:Int)).length=s.size:=aI
   have hsome:∀i,i<s.size→(w1.cell? ⟨w.heap.size,o+i,none⟩).isSome=true:=by
    intro i hi
    rcases o7 with h|rfl
    ·omega
    ·rw[hcell _ aj];rfl
   have hout:∀i,(i<a.toNat∨a.toNat+s.size≤i)→(w1.setCells w.heap.size o (s.data.toList.map fun x=>Value.int .u8 (x.toNat:Int))).cell? ⟨w.heap.size,i,none⟩=w1.cell? ⟨w.heap.size,i,none⟩:=by
    intro i h
    refine World.cell?_setCells_out _ _ _ _ _ (fun _ _=>?_)
    rw[aj8]
    show i<o∨o+s.size≤i
    rcases o7 with h0|rfl
    ·omega
    ·exact h
   have Ey:m.data.toList.length=m.size:=aI
   have hsz:s.data.toList.length=s.size:=aI
   have wK:(m.data.toList.take a.toNat).length=a.toNat:=zS
   have zF:∀x,(I4 m a.toNat s)[j]?=some x→(w1.setCells w.heap.size o (s.data.toList.map fun x=>Value.int .u8 (x.toNat:Int))).cell? ⟨w.heap.size,j,none⟩=some (.int .u8 x.toNat):=by
    intro x hx
    unfold I4 at hx
    by_cases h1:j<a.toNat
    ·rw[List.append_assoc,List.getElem?_append_left (by rw[wK];exact h1),List.getElem?_take_of_lt h1,List.getElem?_eq_getElem aj] at hx
     rw[hout j (.inl h1),hcell j hj,Option.some.inj hx]
    ·by_cases h2:j<a.toNat+s.size
     ·have pz:o=a.toNat:=by
       rcases o7 with h|h
       ·omega
       ·exact h
      subst pz
      rw[List.append_assoc,List.getElem?_append_right (by rw[wK];omega),wK,List.getElem?_append_left aj,List.getElem?_eq_getElem aj] at hx
      have h3:=World.cell?_setCells_in w.heap.size (s.data.toList.map fun x=>Value.int .u8 (x.toNat:Int)) a.toNat w1 (by rw[aj8];exact hsome) (j-a.toNat) (by rw[aj8];omega)
      rw[show a.toNat+(j-a.toNat)=j by omega] at h3
      rw[h3,List.getElem_map,Option.some.inj hx]
     ·rw[List.getElem?_append_right (by rw[List.length_append,wK,hsz];omega),List.length_append,wK,hsz,List.getElem?_drop,show a.toNat+s.size+(j-(a.toNat+s.size))=j by omega,List.getElem?_eq_getElem aj] at hx
      rw[hout j (.inr aj),hcell j hj,Option.some.inj hx]
   have h4:=zF _ (List.getElem?_eq_getElem (by rw[hlen];exact hj))
   rw[show(⟨w.heap.size,0,none⟩:Addr).add j=⟨w.heap.size,j,none⟩ by(simp[Addr.add];intro h0;exact h0.symm)]
   exact h4
 have bZ:Below w.heap.size w (w1.setCells w.heap.size o (s.data.toList.map fun x=>Value.int .u8 (x.toNat:Int))):=below_setCells (Nat.le_refl _) _ _ _ hb1
 generalize w1.setCells w.heap.size o (s.data.toList.map fun x=>Value.int .u8 (x.toNat:Int))=w2 at*
 have aop:=hend _ rfl
 clear hend hcell amZ ho o7
 go_enter Tryz.func176,Tryz.ntmps176
 go_wp2_with(first|(refine tT rfl 9 225 _ rfl (.string m) bG hc1 ?_)|(refine wpList_copy_run rfl _ _ 225 9 rfl _ _ (by simp[Act.eval,Act.put];rfl) (by simp[Act.eval,Act.put];rfl) fF ?_)|(refine tT rfl 225 9 _ rfl (.slice (some ⟨w.heap.size,0,none⟩) m.size cap) bG aop ?_)|fail)
 go_ret
 exact⟨rfl,bZ⟩
def inS(m:ByteArray)(a:Int)(s:ByteArray):ByteArray×Int:=if hasB m a s.size then(Du m a s,0) else(m,10)
theorem SC(m:ByteArray)(a:Int)(s:ByteArray)(ha:0≤a):(inS m a s).1.size=m.size:=by
 unfold inS
 split
 ·rename_i h
  unfold hasB at h
  rw[decide_eq_true_eq] at h
  exact Cq aj
 ·rfl
theorem ad4(m:ByteArray)(a:Int)(s:ByteArray)(w:World)(ha:dI a)(hm:m.size≤9223372036854775807)(hs:s.size≤9223372036854775807):
  Calls Tryz.prog 204 #[.string m,.int .u32 a,.string s] w fun e w'=>e=.returned (.tuple #[.string (inS m a s).1,.int .i64 (inS m a s).2])∧Below w.heap.size w w':=by
 have HH:=ah (fun W=>DV m a s.size W ha aj hm)
 unfold inS
 cases hb:hasB m a s.size
 ·rw[hb] at HH
  obtain⟨ha1,ha2⟩:=ha
  go_enter Tryz.func204,Tryz.ntmps204
  go_wp2_with fail
  with_reducible refine(HH.out _).mono ?_
  rintro e w1 ⟨rfl,hb1⟩
  go_wp2_with fail
  exact bodyPost_ret (v:= .tuple #[.string m,.int .i64 10]) adf rfl ⟨rfl,aG⟩
 ·rw[hb] at HH
  have h2:a+s.size≤m.size:=by
   unfold hasB at hb
   simpa using hb
  have HW:=ah (fun W=>JI m a s W ha (by obtain⟨h,_⟩:=ha;omega) hm)
  obtain⟨ha1,ha2⟩:=ha
  go_enter Tryz.func204,Tryz.ntmps204
  go_wp2_with fail
  with_reducible refine(HH.out _).mono ?_
  rintro e w1 ⟨rfl,hb1⟩
  go_wp2_with fail
  with_reducible refine(HW.out _).mono ?_
  rintro e w2 ⟨rfl,hb2⟩
  have hz1:=hb1.size
  go_wp2_with fail
  exact bodyPost_ret (v:= .tuple #[.string (Du m a s),.int .i64 0]) adf rfl ⟨rfl,aG⟩
end Go.Proofs.YtgmodehldmahiaaGreatDoor
end
section
namespace Go.Proofs.YtgmodehldmahiaaGreatDoor
open Go Go.RowKit Go.Tm
def byteOf(v:Int):UInt8:=UInt8.ofNat (v%256).toNat
theorem Fy(v:Int):((byteOf v).toNat:Int)=v%256:=by
 unfold byteOf
 rw[UInt8.toNat_ofNat']
 omega
theorem J3{W:World}{b cap:Nat}{t:TypeId}{cs:Array Value}(l:List UInt8)(h:aD W b cs t)(hl:cs=(l.map fun x=>Value.int .u8 (x.toNat:Int)).toArray):
  (convert 225 9 (.slice (some ⟨b,0,none⟩) l.length cap)).run Tryz.prog W=.ok (.string ⟨l.toArray⟩) W:=by
 subst hl
 refine run_convert_bytes_back (P:=Tryz.prog) W 225 9 5 ⟨b,0,none⟩ cap l Tryz.underlying225 Tryz.underlying5 Tryz.underlying9 (fun j hj=>?_)
 rw[show(⟨b,0,none⟩:Addr).add j=⟨b,j,none⟩ by(simp[Addr.add];intro h0;exact h0.symm),h.rules.1 j]
 simp[hj]
def oF(m:ByteArray)(a v:Int):ByteArray×Int:=if hasB m a 1 then(Du m a ⟨#[byteOf v]⟩,0) else(m,10)
theorem aan(m:ByteArray)(a v:Int)(ha:0≤a):(oF m a v).1.size=m.size:=by
 unfold oF
 split
 ·rename_i h
  unfold hasB at h
  rw[decide_eq_true_eq] at h
  exact Cq (by show a.toNat+1≤_;omega)
 ·rfl
theorem Wv(m:ByteArray)(a v:Int)(w:World)(ha:dI a)(hv:dI v)(hm:m.size≤9223372036854775807):
  Calls Tryz.prog 144 #[.string m,.int .u32 a,.int .u32 v] w fun e w'=>e=.returned (.tuple #[.string (oF m a v).1,.int .i64 (oF m a v).2])∧Below w.heap.size w w':=by
 have HH:=ah (fun W=>DV m a 1 W ha aj hm)
 unfold oF
 cases hb:hasB m a 1
 ·rw[hb] at HH
  obtain⟨ha1,ha2⟩:=ha
  go_enter Tryz.func144,Tryz.ntmps144
  go_wp2_with fail
  with_reducible refine(HH.out _).mono ?_
  rintro e w1 ⟨rfl,hb1⟩
  go_wp2_with fail
  exact bodyPost_ret (v:= .tuple #[.string m,.int .i64 10]) ade rfl ⟨rfl,aG⟩
 ·rw[hb] at HH
  have h2:a+1≤m.size:=by
   unfold hasB at hb
   simpa using hb
  have HW:=ah (fun W=>JI m a ⟨#[byteOf v]⟩ W ha (by obtain⟨h,_⟩:=ha;show a.toNat+1≤_;omega) hm)
  obtain⟨ha1,ha2⟩:=ha
  obtain⟨Ud,hv2⟩:=hv
  go_enter Tryz.func144,Tryz.ntmps144
  go_wp2_with fail
  with_reducible refine(HH.out _).mono ?_
  rintro e w1 ⟨rfl,hb1⟩
  go_wp2_with fail
  have hcv:(convert 225 9 (.slice (some ⟨w1.heap.size,0,none⟩) 1 1)).run Tryz.prog (w1.alloc (.cells #[.int .u8 (v%256)] 5))=.ok (.string ⟨#[byteOf v]⟩) (w1.alloc (.cells #[.int .u8 (v%256)] 5)):=
   J3 [byteOf v] (aD.new _ _ _) (by simp[Fy])
  go_wp2_with fail
  rw[hcv]
  go_wp2_with fail
  with_reducible refine(HW.out _).mono ?_
  rintro e w2 ⟨rfl,hb2⟩
  have hz1:=hb1.size
  have hz2:=hb2.size
  simp only[World.size_alloc] at hz2
  go_wp2_with fail
  exact bodyPost_ret (v:= .tuple #[.string (Du m a ⟨#[byteOf v]⟩),.int .i64 0]) ade rfl ⟨rfl,aG⟩
def Nk(v:Int):List UInt8:=[byteOf v,byteOf (v/256),byteOf (v/65536),byteOf (v/16777216)]
def EU(m:ByteArray)(a v:Int):ByteArray×Int:=if Dt m a then(Du m a ⟨(Nk v).toArray⟩,0) else(m,10)
theorem RP{m:ByteArray}{a:Int}(h:Dt m a=true):a+4≤m.size:=by
 unfold Dt hasB at h
 simp only[Bool.and_eq_true,decide_eq_true_eq] at h
 exact h.2
theorem Tv(m:ByteArray)(a v:Int)(ha:0≤a):(EU m a v).1.size=m.size:=by
 unfold EU
 split
 ·rename_i h
  have:=RP h
  exact Cq (by show a.toNat+4≤_;omega)
 ·rfl
theorem ZP(m:ByteArray)(a v:Int)(w:World)(ha:dI a)(hv:dI v)(hm:m.size≤9223372036854775807):
  Calls Tryz.prog 143 #[.string m,.int .u32 a,.int .u32 v] w fun e w'=>e=.returned (.tuple #[.string (EU m a v).1,.int .i64 (EU m a v).2])∧Below w.heap.size w w':=by
 have HH:=ah (fun W=>RQ m a W ha hm)
 unfold EU
 cases hb:Dt m a
 ·rw[hb] at HH
  obtain⟨ha1,ha2⟩:=ha
  go_enter Tryz.func143,Tryz.ntmps143
  go_wp2_with fail
  with_reducible refine(HH.out _).mono ?_
  rintro e w1 ⟨rfl,hb1⟩
  go_wp2_with fail
  exact bodyPost_ret (v:= .tuple #[.string m,.int .i64 10]) adb rfl ⟨rfl,aG⟩
 ·rw[hb] at HH
  have h2:=RP hb
  have HW:=ah (fun W=>JI m a ⟨(Nk v).toArray⟩ W ha (by obtain⟨h,_⟩:=ha;show a.toNat+4≤_;omega) hm)
  obtain⟨ha1,ha2⟩:=ha
  obtain⟨Ud,hv2⟩:=hv
  go_enter Tryz.func143,Tryz.ntmps143
  go_wp2_with fail
  with_reducible refine(HH.out _).mono ?_
  rintro e w1 ⟨rfl,hb1⟩
  have hz1:=hb1.size
  go_wp2_with fail
  go_loopw [15] (fun t W=>∃i:Nat,i≤4∧t=.int .i64 i∧Below w.heap.size w W∧W.heap.size=w1.heap.size+1∧aD W w1.heap.size #[.int .u8 (if 0<i then v%256 else 0),.int .u8 (if 1<i then v/256%256 else 0),.int .u8 (if 2<i then v/65536%256 else 0),.int .u8 (if 3<i then v/16777216%256 else 0)] 273) (fun t _=>4-(intOf t).toNat)
  case atStart=>exact⟨0,aj,rfl,aG,aI,aD.new _ _ _⟩
  case round=>
   obtain⟨i,hi,rfl,bZ,hsz,bx⟩:=hrel
   obtain rfl|rfl|rfl|rfl|rfl:i=0∨i=1∨i=2∨i=3∨i=4:=by omega
   ·have bx:aD wr w1.heap.size #[.int .u8 0,.int .u8 0,.int .u8 0,.int .u8 0] 273:=bx
    obtain⟨hc,hf,hl,hn,hn'⟩:=bx.rules
    have K:=ah bx
    clear bx
    go_wp2_with fail
    refine⟨⟨1,aj,rfl,bZ.setCell O9 _,Jc,?_⟩,aC⟩
    have h:=K.out.set 0 (.int .u8 (v%256))
    simpa using h
   ·have bx:aD wr w1.heap.size #[.int .u8 (v%256),.int .u8 0,.int .u8 0,.int .u8 0] 273:=bx
    obtain⟨hc,hf,hl,hn,hn'⟩:=bx.rules
    have K:=ah bx
    clear bx
    go_wp2_with fail
    refine⟨⟨2,aj,rfl,bZ.setCell O9 _,Jc,?_⟩,aC⟩
    have h:=K.out.set 1 (.int .u8 (v/256%256))
    simpa using h
   ·have bx:aD wr w1.heap.size #[.int .u8 (v%256),.int .u8 (v/256%256),.int .u8 0,.int .u8 0] 273:=bx
    obtain⟨hc,hf,hl,hn,hn'⟩:=bx.rules
    have K:=ah bx
    clear bx
    go_wp2_with fail
    refine⟨⟨3,aj,rfl,bZ.setCell O9 _,Jc,?_⟩,aC⟩
    have h:=K.out.set 2 (.int .u8 (v/65536%256))
    simpa using h
   ·have bx:aD wr w1.heap.size #[.int .u8 (v%256),.int .u8 (v/256%256),.int .u8 (v/65536%256),.int .u8 0] 273:=bx
    obtain⟨hc,hf,hl,hn,hn'⟩:=bx.rules
    have K:=ah bx
    clear bx
    go_wp2_with fail
    refine⟨⟨4,aj,rfl,bZ.setCell O9 _,Jc,?_⟩,aC⟩
    have h:=K.out.set 3 (.int .u8 (v/16777216%256))
    have e:v/16777216%256=v/16777216:=aj
    simpa[e] using h
   ·have bx:aD wr w1.heap.size #[.int .u8 (v%256),.int .u8 (v/256%256),.int .u8 (v/65536%256),.int .u8 (v/16777216%256)] 273:=bx
    have hcv:(convert 225 9 (.slice (some ⟨w1.heap.size,0,none⟩) 4 4)).run Tryz.prog wr=.ok (.string ⟨(Nk v).toArray⟩) wr:=
     J3 (Nk v) bx (by simp[Nk,Fy])
    obtain⟨hc,hf,hl,hn,hn'⟩:=bx.rules
    clear bx
    go_wp2_with(first|(refine tT rfl 225 9 _ rfl (.slice (some ⟨w1.heap.size,0,none⟩) 4 4) bG hcv ?_)|fail)
    with_reducible refine(HW.out _).mono ?_
    rintro e w2 ⟨rfl,hb2⟩
    have hz2:=hb2.size
    go_wp2_with fail
    exact bodyPost_ret (v:= .tuple #[.string (Du m a ⟨(Nk v).toArray⟩),.int .i64 0]) adb rfl ⟨rfl,bZ.trans (hb2.mono aj)⟩
end Go.Proofs.YtgmodehldmahiaaGreatDoor
end
section
namespace Go.Proofs.YtgmodehldmahiaaGreatDoor
open Go Go.RowKit Go.Tm Go.Shelf
def Tryz.lays105_ren:Go.Shelf.Ren:=⟨fun|105=>95|212=>120|99=>121|165=>122|166=>123|170=>124|169=>125|263=>155|264=>156|206=>157|240=>158|241=>159|276=>192|277=>193|n=>n,fun|9=>9|3=>3|4=>4|20=>20|0=>0|46=>220|109=>221|5=>5|72=>227|76=>231|51=>116|146=>262|53=>32|148=>264|70=>224|37=>225|75=>230|127=>266|164=>285|80=>234|n=>n,fun|n=>n⟩
theorem Tryz.lays105:Go.Proofs.Lays.n105 Tryz.prog Tryz.lays105_ren:={
 mixed:=by kernel_rfl
 f99:=Tryz.func121.trans (congrArg some ay)
 f105:=Tryz.func95.trans (congrArg some ay)
 f165:=Tryz.func122.trans (congrArg some ay)
 f166:=Tryz.func123.trans (congrArg some ay)
 f169:=Tryz.func125.trans (congrArg some ay)
 f170:=Tryz.func124.trans (congrArg some ay)
 f206:=Tryz.func157.trans (congrArg some ay)
 f212:=Tryz.func120.trans (congrArg some ay)
 f240:=Tryz.func158.trans (congrArg some ay)
 f241:=Tryz.func159.trans (congrArg some ay)
 f263:=Tryz.func155.trans (congrArg some ay)
 f264:=Tryz.func156.trans (congrArg some ay)
 f276:=Tryz.func192.trans (congrArg some ay)
 f277:=Tryz.func193.trans (congrArg some ay)
 t0:=Tryz.underlying0
 a0:=Tryz.isAgg0
 z0:=Tryz.sizeOf0
 v0:=Tryz.zeroValue0
 t3:=Tryz.underlying3
 a3:=Tryz.isAgg3
 z3:=Tryz.sizeOf3
 v3:=Tryz.zeroValue3
 t4:=Tryz.underlying4
 a4:=Tryz.isAgg4
 z4:=Tryz.sizeOf4
 v4:=Tryz.zeroValue4
 t5:=Tryz.underlying5
 a5:=Tryz.isAgg5
 z5:=Tryz.sizeOf5
 v5:=Tryz.zeroValue5
 t9:=Tryz.underlying9
 a9:=Tryz.isAgg9
 z9:=Tryz.sizeOf9
 v9:=Tryz.zeroValue9
 t20:=Tryz.underlying20
 a20:=Tryz.isAgg20
 z20:=Tryz.sizeOf20
 v20:=Tryz.zeroValue20
 t37:=Tryz.underlying225
 a37:=Tryz.isAgg225
 z37:=Tryz.sizeOf225
 v37:=Tryz.zeroValue225
 t46:=Tryz.underlying220
 a46:=Tryz.isAgg220
 z46:=Tryz.sizeOf220
 v46:=Tryz.zeroValue220
 t51:=Tryz.underlying116
 a51:=Tryz.isAgg116
 z51:=Tryz.sizeOf116
 v51:=Tryz.zeroValue116
 t53:=Tryz.underlying32
 a53:=Tryz.isAgg32
 z53:=Tryz.sizeOf32
 v53:=Tryz.zeroValue32
 t70:=Tryz.underlying224
 a70:=Tryz.isAgg224
 z70:=Tryz.sizeOf224
 v70:=Tryz.zeroValue224
 t72:=Tryz.underlying227
 a72:=Tryz.isAgg227
 z72:=Tryz.sizeOf227
 v72:=Tryz.zeroValue227
 t75:=Tryz.underlying230
 a75:=Tryz.isAgg230
 z75:=Tryz.sizeOf230
 v75:=Tryz.zeroValue230
 t76:=Tryz.underlying231
 a76:=Tryz.isAgg231
 z76:=Tryz.sizeOf231
 v76:=Tryz.zeroValue231
 t109:=Tryz.underlying221
 a109:=Tryz.isAgg221
 z109:=Tryz.sizeOf221
 v109:=Tryz.zeroValue221
 t127:=Tryz.underlying266
 a127:=Tryz.isAgg266
 z127:=Tryz.sizeOf266
 v127:=Tryz.zeroValue266
 t146:=Tryz.underlying262
 a146:=Tryz.isAgg262
 z146:=Tryz.sizeOf262
 v146:=Tryz.zeroValue262
 t148:=Tryz.underlying264
 a148:=Tryz.isAgg264
 z148:=Tryz.sizeOf264
 v148:=Tryz.zeroValue264
 t164:=Tryz.underlying285
 a164:=Tryz.isAgg285
 z164:=Tryz.sizeOf285
 v164:=Tryz.zeroValue285}
theorem Tryz.extra105:Builder.Extra Tryz.prog Tryz.lays105_ren:={
 sizeBuilder:=by kernel_rfl
 liesBuilder:=by kernel_rfl
 t5:=Tryz.underlying5
 a5:=Tryz.isAgg5
 z5:=Tryz.sizeOf5
 v5:=Tryz.zeroValue5
 infoByte:=by kernel_rfl
 cellsByte:=by kernel_rfl
 sizeByte:=by kernel_rfl
 neB5:=by decide}
def zeros(n:Nat):ByteArray:=⟨(List.replicate n (0:UInt8)).toArray⟩
theorem J7(n:Nat):(zeros n).size=n:=by
 show(List.replicate n (0:UInt8)).toArray.size=n
 simp
theorem Qh(n:Nat)(w:World)(hn:n≤1024):Calls Tryz.prog 95 #[.string ⟨#[0]⟩,.int .i64 n] w fun e w'=>e=.returned (.string (zeros n))∧Below w.heap.size w w':=by
 refine(Any.strings_Repeat Tryz.lays105 Tryz.extra105 ⟨#[0]⟩ n w aj (by show 1*n≤_;omega)).mono ?_
 rintro e w' ⟨rfl,hb⟩
 refine⟨?_,hb⟩
 have:Lib.repeatL [(0:UInt8)] n=List.replicate n 0:=by
  clear hb hn
  induction n with
  |zero=>rfl
  |succ k ih=>rw[Lib.repeatL,ih];rfl
 unfold zeros
 rw[←this]
def Np(n:Int)(s:ByteArray):ByteArray×Int:=if n<0∨1024<n then(⟨#[]⟩,1) else if n<s.size then(⟨#[]⟩,4) else(s++zeros (n-s.size).toNat,0)
theorem ae6(n:Int)(s:ByteArray)(w:World)(hs:s.size≤9223372036854775807):
  Calls Tryz.prog 84 #[.int .i64 n,.string s] w fun e w'=>e=.returned (.tuple #[.string (Np n s).1,.int .i64 (Np n s).2])∧Below w.heap.size w w':=by
 unfold Np
 by_cases h1:n<0
 ·rw[if_pos (.inl h1)]
  exact aiG
 ·by_cases h2:1024<n
  ·rw[if_pos (.inr h2)]
   exact aiG
  ·rw[if_neg aj]
   by_cases h3:n<s.size
   ·rw[if_pos h3]
    go_enter Tryz.func84,Tryz.ntmps84
    go_wp2_with fail
    exact bodyPost_ret (v:= .tuple #[.string ⟨#[]⟩,.int .i64 4]) Vq rfl ⟨rfl,aG⟩
   ·rw[if_neg h3]
    have hk:n-s.size=((n-s.size).toNat:Int):=aj
    have HR:=ah (fun W=>Qh (n-s.size).toNat W aj)
    rw[←hk] at HR
    clear hk
    go_enter Tryz.func84,Tryz.ntmps84
    go_wp2_with fail
    with_reducible refine(HR.out _).mono ?_
    rintro e w1 ⟨rfl,hb1⟩
    go_wp2_with fail
    ·exfalso;rename_i aqZ;rw[J7] at aqZ;omega
    exact bodyPost_ret (v:= .tuple #[.string (s++zeros (n.toNat-s.size)),.int .i64 0]) Vq rfl ⟨by rw[show(n-s.size).toNat=n.toNat-s.size by omega],aG⟩
end Go.Proofs.YtgmodehldmahiaaGreatDoor
end
