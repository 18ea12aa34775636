/- Part 13 of 53 of the proof of topAlone_and_topApart. Conditions: see each. -/
import Derived.Test.YtgmodehldmahiaaGreatDoorB01
import Derived.Test.YtgmodehldmahiaaGreatDoorB10
import Derived.Test.YtgmodehldmahiaaGreatDoorB09
import Derived.Test.YtgmodehldmahiaaGreatDoorRows
import Derived.Test.YtgmodehldmahiaaGreatDoorB02
set_option linter.unusedVariables false
set_option linter.unusedSimpArgs false
set_option maxRecDepth 8192
set_option maxHeartbeats 40000000
section
namespace Go.Tm
open Go Go.RowKit
section
variable {P:Program}
structure Ends(e0:Exit)(N:Act→World→Prop)(e:Exit)(a:Act)(w:World):Prop where
 ex:e=e0
 is:N a w
theorem Fg{id:Nat}{c d:Code}{R:Exit→Act→World→Prop}{a:Act}{w:World}(h:∀N:Act→World→Prop,Hid (∀a w,d.wp P R a w→N a w)→c.wp P (Ends (.exit id) N) a w):((Code.block id c).seq d).wp P R a w:=by
 refine wp_seq (wp_block (Code.wp_mono (fun e a w h=>?_) (h (fun a w=>d.wp P R a w) (ah fun _ _ h=>h))))
 obtain⟨rfl,h⟩:=h
 simp only[Exit.inBlock,if_true]
 exact h
theorem WI{id:Nat}{c d:Code}{R:Exit→Act→World→Prop}{a:Act}{w:World}(h:∀N:Act→World→Prop,Hid (∀a w,d.wp P R a w→N a w)→c.wp P (Ends .normal N) a w):((Code.block id c).seq d).wp P R a w:=by
 refine wp_seq (wp_block (Code.wp_mono (fun e a w h=>?_) (h (fun a w=>d.wp P R a w) (ah fun _ _ h=>h))))
 obtain⟨rfl,h⟩:=h
 exact h
theorem Cx{id n:Nat}{c d:Code}{N:Act→World→Prop}{a:Act}{w:World}(hid:(n==id)=false)(h:c.wp P (Ends (.exit n) N) a w):((Code.block id c).seq d).wp P (Ends (.exit n) N) a w:=by
 refine wp_seq (wp_block (Code.wp_mono (fun e a w h=>?_) h))
 obtain⟨rfl,h⟩:=h
 have:n≠id:=by simpa using hid
 simp only[Exit.inBlock,if_neg this]
 exact⟨rfl,h⟩
end
end Go.Tm
end
section
namespace Go.Proofs.YtgmodehldmahiaaGreatDoor
open Go Go.RowKit Go.Tm aW
def okP(n:Nat)(x:Int):Prop:=0≤x∧x<n
theorem adV{x y:ByteArray}(h:x≠y):(x==y)=false:=by
 cases e:(x==y)
 ·rfl
 ·exact absurd ((MapKept.bytes_beq x y).1 e) h
theorem Ya{x y:ByteArray}(h:x≠y):(x.toList==y.toList)=false:=by
 rw[beq_eq_false_iff_ne]
 intro e
 simp only[ByteArray.toList_eq] at e
 obtain⟨x⟩:=x
 obtain⟨y⟩:=y
 exact h (by rw[show x=y from Array.toList_inj.1 e])
theorem X_{α:Type}{l m:List α}{k:Nat}{x:α}(h:l.take k=m.take k)(hl:l[k]?=some x)(hm:m[k]?=some x):l.take (k+1)=m.take (k+1):=by
 rw[List.take_add_one,List.take_add_one,h,hl,hm]
end Go.Proofs.YtgmodehldmahiaaGreatDoor
end
section
namespace Go.Proofs.YtgmodehldmahiaaGreatDoor
open Go Go.ChangeShapes Go.WideShapes Go.ChangeAt Go.RowKit Go.Tm
theorem zq{C:Checked}{os:Os}{f:FuncId}{fn:Func}{s:ChangeSpec}{H:Type}{enc:TypeId×Value→H}(F:Stop.Interp){ls:List (String×DataW Unit)}
  (own:ownKnob C.prog.godebug=none)(laid:laidOutB C.prog=true)(started:os.Started)(alC:C.prog.inits.idxOf? f=none)(hfn:C.prog.funcs[f]?=some fn)
  (hts:fn.params.toList.all (fun t=>C.prog.readableRec t&&decide (t<C.prog.types.size))=true)
  {tb:TypeId}(aot:C.prog.underlying tb=some .bool)(hres:fn.resultTypes=#[tb])(ajw:s.vars=[])
  (aoi:∀ds:List (DataW H),ds.length=fn.params.size→s.fn H ds={results:=[.lit (.bool true)],args:=ds})
  (wit:∃(w:World) (tape:Tape) (i:Input),w.os=os∧(w.forCall tape i).Shaped C.prog∧i.vars=[]∧Input.okWide C.prog (w.forCall tape i) .any w.heap.size f i∧
   (OpenSpec.ofChange s).preRow enc C.prog fn [] false ls (w.forCall tape i).memory i.args∧({}:Assume).holds C.prog (lone (Frame.enter C.prog f i.args .normal) [] (w.forCall tape i)))
  (walk:∀(W:World) (args:Array Value),args.size=fn.params.size→
   (∀(j:Nat) (t:TypeId) (v:Value),fn.params[j]?=some t→args[j]?=some v→rZ C.prog W t v)→laidMetH C.prog ls W→
   Calls C.prog f args W fun e w'=>e=.returned (.bool true)∧Below W.heap.size W w'):
  ReturnsInHanded {} C os f .any ((OpenSpec.ofChange s).preRow enc C.prog fn [] false ls) (((OpenSpec.ofChange s).at F).post enc C.prog fn false true false false):=by
 refine returnsInHanded_of_row (s:=OpenSpec.ofChange s) own started alC hfn wit ?_
 intro W base args ds gs before hval hW _ _ hsz hL _ _
 suffices ao4:Calls C.prog f args W fun e W'=>∃v,e=.returned v∧s.post enc C.prog fn false true false false W args v W' from ao4
 have hW':DataW.Whole enc C.prog fn.params.toList s.vars false W args.toList ds gs before:=hW
 obtain⟨p,q,hA,hV,rfl,Hr,yQ⟩:=hW
 rw[show(OpenSpec.ofChange s).vars=[] from ajw] at hV
 obtain⟨rfl,rfl⟩:=trodVars_none hV
 obtain⟨jO,hl2,zF⟩:=Gu hA
 have hsize:args.size=fn.params.size:=by simpa using jO
 have hdl:ds.length=fn.params.size:=by simpa using hl2
 refine(walk W args hsize ?_ hL).mono fun e W' ⟨he,bel⟩=>?_
 ·intro j t v ht hv
  have ht':fn.params.toList[j]?=some t:=by simpa using ht
  obtain⟨d,p',hd,htr⟩:=zF j t v ht' (by simpa using hv)
  refine Qn (hval j t v ht hv) htr fun n hn=>?_
  have h2:=List.all_eq_true.1 hsz n (DataW.weights_mem_each (j:=j) (t:=t) (d:=d) ?_ ?_ n hn)
  ·simpa using h2
  ·rw[List.getElem?_append_left (List.getElem?_eq_some_iff.1 ht').1];exact ht'
  ·rw[List.getElem?_append_left (List.getElem?_eq_some_iff.1 hd).1];exact hd
 ·subst he
  have hsp:=aoi ds hdl
  have hnil:ds++([]:List (DataW H))=ds:=List.append_nil _
  refine⟨_,rfl,ds,[],p++[],[],p,[],hW',?_,?_,?_,bel.frame _,fun h=>by cases h⟩
  ·rw[hnil,hsp,hres]
   exact trodAll_mk1 (shut_bool aot _)
  ·rw[hnil,hsp]
   exact BF laid bel hts hA
  ·rw[ajw,hnil,hsp]
   rfl
end Go.Proofs.YtgmodehldmahiaaGreatDoor
end
