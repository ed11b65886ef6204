/-
  UNDO, plain law 8: the reference's ways to change a tree, and the document's.
-/
import Derived.Test.YtnoakpkjccigoaaGreatDoorRXP8toXU7
import Derived.Lib.ItoaLen
import Derived.Test.YtnoakpkjccigoaaGreatDoorRXL52toXE16
import Derived.Test.YtnoakpkjccigoaaGreatDoorRXDattoXC1
import Derived.Test.YtnoakpkjccigoaaGreatDoorRXOpI
import Derived.Test.YtnoakpkjccigoaaGreatDoorRXL13toXL45
import Derived.Test.YtnoakpkjccigoaaGreatDoorRXM1toXL32
import Derived.Test.YtnoakpkjccigoaaGreatDoorRXAv21toXAv25
namespace Go.Av
open Go Go.RowKit Go.Proofs List
set_option linter.unusedSimpArgs false
set_option linter.unusedVariables false
mutual
def U.eve (i:Idd) (f:U->U):U->U
 |⟨d,k,l,h,w,ks⟩=>if d=i then f ⟨d,k,l,h,w,ks⟩else ⟨d,k,l,h,w,U.eves i f ks⟩
def U.eves (i:Idd) (f:U->U):List U->List U
 |[]=>[]
 |u::us=>U.eve i f u::U.eves i f us
end
theorem U.eve_eq (i:Idd) (f:U->U) (u:U):U.eve i f u=if u.id=i then f u else {u with kids:=U.eves i f u.kids}:=by cases u;rw[U.eve]
theorem U.eves_map (i:Idd) (f:U->U):∀l:List U,U.eves i f l=l.map (U.eve i f)
 |[]=>by rw[U.eves];rfl
 |u::us=>by rw[U.eves,U.eves_map i f us];rfl
theorem eve_no {i:Idd} {f:U->U}:∀u:U,i∉u.ids->U.eve i f u=u:=by
 refine U.ind λu ih h=>?_
 rw[U.ids_eq,mem_cons,not_or]at h
 rw[U.eve_eq,if_neg (Ne.symm h.1),U.eves_map]
 have e:u.kids.map (U.eve i f)=u.kids:=by
  have:∀l:List U,(∀k∈l,k∈u.kids)->i∉U.idss l->l.map (U.eve i f)=l:=by
   intro l
   induction l with
   |nil=>intro _ _;rfl
   |cons a l ihl=>
    intro E D
    rw[U.idss_cons,mem_append,not_or]at D
    rw[map_cons,ih a (E a (by simp)) D.1,ihl (λk F=>E k (by simp[F])) D.2]
  exact this u.kids (λ_ h=>h) h.2
 rw[e]
 cases u;rfl
theorem eves_no {i:Idd} {f:U->U} {us:List U} (h:i∉U.idss us):us.map (U.eve i f)=us:=by
 induction us with
 |nil=>rfl
 |cons u us ih=>
  rw[U.idss_cons,mem_append,not_or]at h
  rw[map_cons,eve_no u h.1,ih h.2]
theorem qA {i:Idd} {f:U->U} (u:U) (D:u.ids.Nodup) (hi:i∈u.ids):U.eve i f u=U.wth i f u:=by
 refine U.wayInd (i:=i) (p:=λu=>U.eve i f u=U.wth i f u) ?_ ?_ u D hi
 ·intro u _ h
  rw[U.eve_eq,if_pos h,bA h]
 ·intro u a k b _ h s ih
  rw[U.eve_eq,if_neg h,s.wth h,U.eves_map,s.eq,map_append,map_cons,eves_no s.left,eves_no s.right,ih]
mutual
def U.cut (i:Idd):U->U
 |⟨d,k,l,h,w,ks⟩=>⟨d,k,l,h,w,U.cuts i ks⟩
def U.cuts (i:Idd):List U->List U
 |[]=>[]
 |u::us=>if u.id=i then U.cuts i us else U.cut i u::U.cuts i us
end
theorem U.cut_eq (i:Idd) (u:U):U.cut i u={u with kids:=U.cuts i u.kids}:=by cases u;rw[U.cut]
theorem U.cuts_nil (i:Idd):U.cuts i []=[]:=by rw[U.cuts]
theorem U.cuts_cons (i:Idd) (u:U) (us:List U):U.cuts i (u::us)=if u.id=i then U.cuts i us else U.cut i u::U.cuts i us:=by rw[U.cuts]
theorem qE (i:Idd) (a b:List U):U.cuts i (a++b)=U.cuts i a++U.cuts i b:=by
 induction a with
 |nil=>rw[U.cuts_nil];rfl
 |cons x a ih=>
  rw[cons_append,U.cuts_cons,U.cuts_cons,ih]
  split<;>rfl
theorem cut_no {i:Idd}:∀u:U,i∉U.idss u.kids->U.cut i u=u:=by
 refine U.ind λu ih h=>?_
 rw[U.cut_eq]
 have e:U.cuts i u.kids=u.kids:=by
  have:∀l:List U,(∀k∈l,k∈u.kids)->i∉U.idss l->U.cuts i l=l:=by
   intro l
   induction l with
   |nil=>intro _ _;exact U.cuts_nil i
   |cons a l ihl=>
    intro F E
    rw[U.idss_cons,mem_append,not_or]at E
    have D:=E.1
    rw[U.ids_eq,mem_cons,not_or]at D
    rw[U.cuts_cons,if_neg (Ne.symm D.1),ih a (F a (by simp)) D.2,ihl (λk I=>F k (by simp[I])) E.2]
  exact this u.kids (λ_ h=>h) h
 rw[e]
 cases u;rfl
theorem p9 {i:Idd} {us:List U} (h:i∉U.idss us):U.cuts i us=us:=by
 induction us with
 |nil=>exact U.cuts_nil i
 |cons u us ih=>
  rw[U.idss_cons,mem_append,not_or]at h
  have D:=h.1
  rw[U.ids_eq,mem_cons,not_or]at D
  rw[U.cuts_cons,if_neg (Ne.symm D.1),cut_no u D.2,ih h.2]
theorem pG {i:Idd} (u:U) (hn:u.ids.Nodup) (hi:i∈u.ids) (ad:u.id≠i):U.cut i u=l7 i u:=by
 obtain⟨own,d,j,w1,w2,Z⟩:=bt hn hi ad
 have hW:l7 i u=U.wth own.id (λy=>{y with kids:=pm y.kids j}) u:=by unfold l7;rw[w1]
 rw[hW]
 obtain⟨a,x,b,s,hx,hj,J⟩:=Z.split
 have ah:fnd own.id u=own:=Z.fnd
 have key:∀y,(U.way own.id u).getLast?=some y->y=own:=λy N=>by rw[←ah,aB N]
 clear w1 w2 hW J
 have Y:∀v:U,v.ids.Nodup->own.id∈v.ids->(∀y,(U.way own.id v).getLast?=some y->y=own)->U.cut i v=U.wth own.id (λy=>{y with kids:=pm y.kids j}) v:=by
  intro v hv V
  refine U.wayInd (i:=own.id) (p:=λv=>(∀y,(U.way own.id v).getLast?=some y->y=own)->U.cut i v=U.wth own.id (λy=>{y with kids:=pm y.kids j}) v) ?_ ?_ v hv V
  ·intro v _ h N
   have an:v=own:=N v (by rw[aN h];rfl)
   rw[an,bA rfl,U.cut_eq,hj]
   have e:U.cuts i own.kids=pm own.kids a.length:=by
    rw[s.eq,bO,qE,U.cuts_cons,if_pos hx,p9 s.left,p9 s.right]
   rw[e]
  ·intro v a' F b' al h E ih N
   have T:i∈F.ids:=by
    have I:own∈F.flat:=by
     obtain⟨y,D⟩:∃y,(U.way own.id F).getLast?=some y:=by
      cases J:(U.way own.id F).getLast? with
      |some y=>exact⟨y,rfl⟩
      |none=>rw[getLast?_eq_none_iff]at J;exact absurd E.mem ((cO F).1 J)
     have e:=N y (by rw[E.way h,getLast?_cons,D];rfl)
     have O:=aP F E.nd E.mem
     rw[aB D,e]at O
     exact O
    have M:x∈own.kids:=by rw[s.eq];simp
    exact mem_map.2 ⟨x,dM I M,hx⟩
   have ac:F.id≠i:=by
    intro e
    have I:own∈F.flat:=by
     obtain⟨y,D⟩:∃y,(U.way own.id F).getLast?=some y:=by
      cases J:(U.way own.id F).getLast? with
      |some y=>exact⟨y,rfl⟩
      |none=>rw[getLast?_eq_none_iff]at J;exact absurd E.mem ((cO F).1 J)
     have e:=N y (by rw[E.way h,getLast?_cons,D];rfl)
     have O:=aP F E.nd E.mem
     rw[aB D,e]at O
     exact O
    have M:x∈own.kids:=by rw[s.eq];simp
    have aw:=dM I M
    have e2:x=F:=qv E.nd aw (by rw[U.flat_eq];exact mem_cons_self) (by rw[hx,e])
    have n1:=(U.nd_kids Z.nd).2
    rw[s.eq,U.idss_app,U.idss_cons]at n1
    exact n1 (mem_append.2 (.inr (mem_append.2 (.inl (by rw[e2];exact E.mem)))))
   have X:=(U.nd_kids al).1
   rw[E.eq,U.idss_app,U.idss_cons,nodup_append]at X
   obtain⟨_,n2,n3⟩:=X
   rw[nodup_append]at n2
   have ha:i∉U.idss a':=λV=>n3 i V i (mem_append.2 (.inl T)) rfl
   have hb:i∉U.idss b':=λV=>n2.2.2 i T i V rfl
   rw[U.cut_eq,E.wth h,E.eq,qE,U.cuts_cons,if_neg ac,p9 ha,p9 hb,ih]
   intro y D
   exact N y (by rw[E.way h,getLast?_cons,D];rfl)
 exact Y u hn Z.mem key
theorem wth_at {i:Idd} {f g:U->U} (u:U) (F:u.ids.Nodup) (hi:i∈u.ids) (h:f (fnd i u)=g (fnd i u)):U.wth i f u=U.wth i g u:=by
 revert h
 refine U.wayInd (i:=i) (p:=λu=>f (fnd i u)=g (fnd i u)->U.wth i f u=U.wth i g u) ?_ ?_ u F hi
 ·intro u _ h e
  have D:fnd i u=u:=aB (by rw[aN h];rfl)
  rw[D]at e
  rw[bA h,bA h,e]
 ·intro u a k b F h s ih e
  have D:fnd i u=fnd i k:=by
   obtain⟨y,I⟩:∃y,(U.way i k).getLast?=some y:=by
    cases E:(U.way i k).getLast? with
    |some y=>exact⟨y,rfl⟩
    |none=>rw[getLast?_eq_none_iff]at E;exact absurd s.mem ((cO k).1 E)
   rw[aB I]
   exact aB (by rw[s.way h,getLast?_cons,I];rfl)
  rw[D]at e
  rw[s.wth h,s.wth h,ih e]
/-! ### the reference -/
def pP (l:List U) (k:Int) (s:List UInt8) (D:Idd):Bool:=l.any λx=>decide (x.kind=k)&&(decide (x.label=s)&&decide (x.id≠D))
def insX (u:U) (q:Idd) (k:Int) (x:U):U×Int:=
 if en u q k x≠0 then (noU,en u q k x)else (U.eve q (λy=>{y with kids:=l8 y.kids k.toNat x}) u,0)
def remX (u:U) (i:Idd):U×Int:=
 if stP u=false then (noU,1)else if i∉u.ids then (noU,4)else if u.id=i then (noU,9)else (U.cut i u,0)
def movX (u:U) (i q:Idd) (k:Int):U×Int:=
 if stP u=false then (noU,1)else if i∉u.ids\/q∉u.ids then (noU,4)
 else if u.id=i\/q∈(fnd i u).ids then (noU,9)
 else if pl (fnd q (U.cut i u)).kind (fnd i u).kind=false then (noU,9)
 else if k<0\/((fnd q (U.cut i u)).kids.length:Int)<k then (noU,3)
 else if pn (fnd q (U.cut i u)).kids (fnd i u).kind (fnd i u).label=true then (noU,10)
 else if 64<=(fnd q (U.cut i u)).kids.length\/8<lev (U.cut i u) q+1+(fnd i u).dep then (noU,6)
 else (U.eve q (λy=>{y with kids:=l8 y.kids k.toNat (fnd i u)}) (U.cut i u),0)
def pz (x:U) (u:U):U:=U.eve x.id (λy=>{x with kids:=y.kids}) u
def relX (u:U) (i:Idd) (s:List UInt8):U×Int:=
 if stP u=false\/br s=false then (noU,1)else if i∉u.ids then (noU,4)else if (fnd i u).kind=0 then (noU,9)
 else if (fnd i u).label=s then (noU,10)
 else if u.id≠i/\pP (fnd (parR i u).1.id u).kids (fnd i u).kind s i=true then (noU,10)
 else (pz {fnd i u with label:=s} u,0)
def wrX (u:U) (i:Idd) (l:List Wd) (D:Bool):U×Int:=
 if stP u=false then (noU,1)else if (l.any λw=>!bf w.text)=true then (noU,1)else if i∉u.ids then (noU,4)else if (fnd i u).kind=0 then (noU,9)
 else if 256<l.length then (noU,6)else (pz (if D then {fnd i u with head:=l}else {fnd i u with words:=l}) u,0)
def revX (v:U) (p:Pt):U×Int:=
 if p.kind=0 then remX v p.id
 else if p.kind=1 then insX v p.parent p.at_ p.unit
 else if p.kind=2 then movX v p.id p.parent p.at_
 else if p.kind=3 then relX v p.id p.label
 else if p.kind=4 then wrX v p.id p.words false
 else if p.kind=5 then wrX v p.id p.words true
 else (noU,1)
theorem qM {u:U} (D:u.ids.Nodup) {i:Idd} (hi:i∈u.ids) {x:U} (E:x.id=i) {f:U->U} (F:f (fnd i u)={x with kids:=(fnd i u).kids}):pz x u=U.wth i f u:=by
 unfold pz
 rw[E,qA u D hi]
 refine wth_at u D hi ?_
 rw[F,E]
theorem fit_mem {u:U} {q:Idd} {k:Int} {x:U} (h:en u q k x=0):q∈u.ids:=by
 unfold en at h
 split at h
 ·cases h
 split at h
 ·cases h
 ·rename_i c;simpa using c
theorem ins_X {u:U} (D:u.ids.Nodup) (q:Idd) (k:Int) (x:U):insX u q k x=insT u q k x:=by
 unfold insX insT
 by_cases h:en u q k x≠0
 ·rw[if_pos h,if_pos h]
 ·rw[if_neg h,if_neg h,qA u D (fit_mem (by simpa using h))]
theorem rem_X {u:U} (D:u.ids.Nodup) (i:Idd):remX u i=remT u i:=by
 unfold remX remT
 split
 ·rfl
 split
 ·rfl
 split
 ·rfl
 ·rename_i c1 c2
  rw[pG u D (by simpa using c1) c2]
theorem mov_X {u:U} (h:Good u) (i q:Idd) (k:Int):movX u i q k=movT u i q k:=by
 unfold movX movT
 by_cases c0:stP u=false
 ·rw[if_pos c0,if_pos c0]
 rw[if_neg c0,if_neg c0]
 by_cases c1:i∉u.ids\/q∉u.ids
 ·rw[if_pos c1,if_pos c1]
 rw[if_neg c1,if_neg c1]
 rw[not_or,Classical.not_not,Classical.not_not]at c1
 obtain⟨hi,O⟩:=c1
 by_cases c2:u.id=i\/q∈(fnd i u).ids
 ·rw[if_pos c2,if_pos (by rcases c2 with c|c;exact .inl c.symm;exact .inr (.inl c))]
 rw[if_neg c2]
 rw[not_or]at c2
 have E:=pG u h.nd hi c2.1
 obtain⟨I,Y,Z,A,B,hA,J,M⟩:=cN h hi c2.1
 have F:q∈(l7 i u).ids:=by
  rw[M]
  have:=O
  rw[J]at this
  rcases mem_append.1 this with hm|hm
  ·exact mem_append.2 (.inl hm)
  ·rcases mem_append.1 hm with hm|hm
   ·exact absurd hm c2.2
   ·exact mem_append.2 (.inr hm)
 have D:(fnd q (l7 i u)).kind=(fnd q u).kind:=by
  obtain⟨own,d,j,X,w2,N⟩:=bt h.nd hi c2.1
  obtain⟨T,p2,V⟩:=qG h.nd X N
  have:=ml (k:=j) (x:=fnd i u) I.nd V F c2.2
  rw[T]at this
  exact this.symm
 rw[E,D,qA _ I.nd F]
 by_cases c3:pl (fnd q u).kind (fnd i u).kind=false
 ·rw[if_pos c3,if_pos (.inr (.inr c3))]
 ·rw[if_neg c3,if_neg (c:=i=u.id\/q∈(fnd i u).ids\/pl (fnd q u).kind (fnd i u).kind=false) (by rintro(e|e|e)<;>first|exact c2.1 e.symm|exact c2.2 e|exact c3 e)]
theorem taken_X {l:List U} (V:(U.idss l).Nodup) {x:U} (Y:x∈l) {s:List UInt8} (X:x.label≠s):pP l x.kind s x.id=pn l x.kind s:=by
 unfold pP pn
 rw[Bool.eq_iff_iff]
 simp only[any_eq_true,Bool.and_eq_true,decide_eq_true_eq]
 constructor
 ·rintro⟨y,I,E,D,_⟩
  exact⟨y,I,E,D⟩
 ·rintro⟨y,I,E,D⟩
  refine⟨y,I,E,D,λO=>X ?_⟩
  have F:∀{l:List U},(U.idss l).Nodup->∀{a b:U},a∈l->b∈l->a.id=b.id->a=b:=by
   intro l
   induction l with
   |nil=>intro _ a b J;cases J
   |cons z l ih=>
    intro M a b J T e
    rw[U.idss_cons,nodup_append]at M
    obtain⟨n1,Z,N⟩:=M
    rcases mem_cons.1 J with E|ha'<;>rcases mem_cons.1 T with D|hb'
    ·rw[E,D]
    ·exact absurd e (N _ (E ▸ cR _) _ (de hb' (cR _)))
    ·exact absurd e.symm (N _ (D ▸ cR _) _ (de ha' (cR _)))
    ·exact ih Z ha' hb' e
  rw[←F V I Y O,D]
theorem rel_X {u:U} (h:Good u) (i:Idd) (s:List UInt8):relX u i s=relT u i s:=by
 unfold relX relT
 by_cases c0:stP u=false\/br s=false
 ·rw[if_pos c0,if_pos c0]
 rw[if_neg c0,if_neg c0]
 by_cases c1:i∉u.ids
 ·rw[if_pos c1,if_pos c1]
 rw[if_neg c1,if_neg c1]
 rw[Classical.not_not]at c1
 by_cases c2:(fnd i u).kind=0
 ·rw[if_pos c2,if_pos c2]
 rw[if_neg c2,if_neg c2]
 by_cases c3:(fnd i u).label=s
 ·rw[if_pos c3,if_pos (.inl c3)]
 rw[if_neg c3]
 have F:(fnd i u).id=i:=(cS u h.nd c1).1
 have N:pz {fnd i u with label:=s} u=U.wth i (λy=>{y with label:=s}) u:=qM (x:={fnd i u with label:=s}) (f:=λy=>{y with label:=s}) h.nd c1 F (by cases fnd i u;rfl)
 have J:(u.id≠i/\pP (fnd (parR i u).1.id u).kids (fnd i u).kind s i=true)↔co u i s=true:=by
  by_cases D:u.id=i
  ·have:aF i u=none:=by rw[cB D]
   unfold co
   rw[this]
   simp[D]
  ·obtain⟨own,d,j,V,w2,I⟩:=bt h.nd c1 D
   obtain⟨a,x,b,T,O,X,M⟩:=I.split
   have E:fnd i u=x:=aB M
   unfold co
   rw[V,w2]
   simp only
   rw[I.fnd]
   have:=taken_X (l:=own.kids) (x:=x) (s:=s) (U.nd_kids I.nd).1 (by rw[T.eq];simp) (by rw[←E];exact c3)
   rw[O]at this
   rw[E,this]
   exact⟨λe=>e.2,λe=>⟨D,e⟩⟩
 by_cases c4:co u i s=true
 ·rw[if_pos (J.2 c4),if_pos (.inr c4)]
 ·rw[if_neg (λe=>c4 (J.1 e)),if_neg (by rintro(e|e);exact c3 e;exact c4 e),N]
theorem wr_X {u:U} (h:Good u) (i:Idd) (l:List Wd) (D:Bool):wrX u i l D=wrT u i l (λy=>if D then {y with head:=l}else {y with words:=l}):=by
 unfold wrX wrT
 by_cases c0:stP u=false
 ·rw[if_pos c0,if_pos (.inl c0)]
 rw[if_neg c0]
 by_cases c00:(l.any λw=>!bf w.text)=true
 ·rw[if_pos c00,if_pos (.inr c00)]
 rw[if_neg c00,if_neg (c:=stP u=false\/(l.any λw=>!bf w.text)=true) (by rintro(e|e);exact c0 e;exact c00 e)]
 by_cases c1:i∉u.ids
 ·rw[if_pos c1,if_pos c1]
 rw[if_neg c1,if_neg c1]
 rw[Classical.not_not]at c1
 by_cases c2:(fnd i u).kind=0
 ·rw[if_pos c2,if_pos c2]
 rw[if_neg c2,if_neg c2]
 by_cases c3:256<l.length
 ·rw[if_pos c3,if_pos c3]
 rw[if_neg c3,if_neg c3]
 have E:(fnd i u).id=i:=(cS u h.nd c1).1
 rw[qM (f:=λy=>if D then {y with head:=l}else {y with words:=l}) h.nd c1 (by cases D<;>exact E) (by cases D<;>rfl)]
theorem rev_X {u:U} (h:Good u) (p:Pt):revX u p=revP u p:=by
 unfold revX revP
 rw[rem_X h.nd,ins_X h.nd,mov_X h,rel_X h,wr_X h,wr_X h]
 rfl
theorem fA {n:Int} (D:0<=n) (E:n<10):Lib.itoa n=[UInt8.ofNat (48+n.toNat)]:=by
 unfold Lib.itoa
 rw[if_neg (by omega),Lib.decDigits_one (by omega)]
/-! ### the texts of patches -/
def idTx (i:Idd):List UInt8:=Lib.itoa i.act++(46::(Lib.itoa i.item++(46::Lib.itoa i.n)))
def allU:U->List Dd->U×List Pt
 |u,[]=>(u,[])
 |u,d::l=>if chg d.it.kind=false\/(invP u d).2≠0 then allU u l else ((allU (doP u d).1 l).1,(invP u d).1::(allU (doP u d).1 l).2)
theorem allU_nil (u:U):allU u []=(u,[]):=rfl
theorem ln (u:U) (d:Dd) (l:List Dd):allU u (d::l)=if chg d.it.kind=false\/(invP u d).2≠0 then allU u l else ((allU (doP u d).1 l).1,(invP u d).1::(allU (doP u d).1 l).2):=rfl
theorem inv_err (u:U) (d:Dd):(invP u d).2=(doP u d).2:=by
 unfold invP
 split
 ·rfl
 ·rename_i c;simp only[ne_eq,Classical.not_not]at c;rw[c]
theorem iY:∀{l:List Dd} {u:U},Good u->u.kind=0->Good (allU u l).1/\(allU u l).1.kind=0
 |[],u,h,h0=>⟨h,h0⟩
 |d::l,u,h,h0=>by
  rw[ln]
  split
  ·exact iY h h0
  ·obtain⟨D,E⟩:=fz h d
   exact iY (u:=(doP u d).1) D (E.kind.trans h0)
def Pt.cs (p:Pt):List AV:=[.int .i64 p.kind,.int .i64 p.at_,.int .i64 p.id.act,.int .i64 p.id.item,.int .i64 p.id.n,.int .i64 p.parent.act,.int .i64 p.parent.item,.int .i64 p.parent.n,.int .i64 p.unit.id.act,.int .i64 p.unit.id.item,.int .i64 p.unit.id.n,.int .i64 p.unit.kind,.str p.unit.label,.lst 4 (p.unit.head.map Wd.cs),.lst 4 (p.unit.words.map Wd.cs),.lst 8 (p.unit.kids.map U.cs),.str p.label,.lst 4 (p.words.map Wd.cs)]
theorem Pt.cs_len (p:Pt):p.cs.length=18:=rfl
def saidP (l:List Wd):List UInt8:=(l.map λw=>32::w.text).flatten
def fromP (p:Pt):List UInt8:=idTx p.id++([32,102,114,111,109,32]++(idTx p.parent++([32,97,116,32]++Lib.itoa p.at_)))
def fmtP (p:Pt):List UInt8:=
 if p.kind=0 then [105,110,115,101,114,116,101,100,32]++idTx p.id
 else if p.kind=1 then [114,101,109,111,118,101,100,32]++fromP p
 else if p.kind=2 then [109,111,118,101,100,32]++fromP p
 else if p.kind=3 then [108,97,98,101,108,32]++(idTx p.id++([32,119,97,115,32]++p.label))
 else if p.kind=4 then [119,111,114,100,115,32]++(idTx p.id++([32,119,101,114,101]++saidP p.words))
 else if p.kind=5 then [104,101,97,100,105,110,103,32]++(idTx p.id++([32,119,97,115]++saidP p.words))
 else []
theorem fmt_zero:fmtP zPt=[105,110,115,101,114,116,101,100,32,48,46,48,46,48]:=by
 unfold fmtP zPt
 rw[if_pos rfl]
 unfold idTx zId
 rw[fA (by decide) (by decide)]
 rfl
end Go.Av
section
namespace Go.Av
open Go Go.RowKit Go.Proofs List
set_option linter.unusedSimpArgs false
set_option linter.unusedVariables false
theorem qQ {n:Nat} {a:List AV} (h:Shp Tryz.prog reachBytes n 29 a):∃p:Pt,a=p.cs/\p.unit.fit/\p.label.length<1000000000000000000/\(p.words.length<1000000000000000000/\∀x∈p.words,x.text.length<1000000000000000000):=by
 obtain⟨m,rfl,g⟩:=cD Tryz.underlying29 h
 clear h
 simp only[toL,ShpF]at g
 obtain⟨Y,b1,rfl,D,Z,b2,rfl,E,a3,b3,rfl,F,a4,b4,rfl,I,a5,b5,rfl,J,a6,b6,rfl,M,a7,b7,rfl,N,rfl⟩:=g
 obtain⟨k,rfl⟩:=bL Tryz.underlying3 D
 obtain⟨t,rfl⟩:=bL Tryz.underlying3 E
 obtain⟨i,rfl⟩:=qB F
 obtain⟨q,rfl⟩:=qB I
 obtain⟨u,rfl,T⟩:=ls _ _ J
 obtain⟨s,O,rfl⟩:=eN Tryz.underlying9 M
 obtain⟨l,rfl,V,X⟩:=ki N
 refine⟨⟨k,t,i,q,u,s,l⟩,?_,T,dF O,V,X⟩
 rw[U.cs_eq]
 rfl
end Go.Av
namespace Go.Proofs.YtnoakpkjccigoaaGreatDoor
theorem cellsP:Tryz.prog.cellsOf 29=18:=by kernel_rfl
end Go.Proofs.YtnoakpkjccigoaaGreatDoor
end
namespace Go.Av
open Go Go.RowKit List
set_option linter.unusedSimpArgs false
set_option linter.unusedVariables false
theorem kr {α:Type} (l:List α):∀(c k:Nat),k<c*l.length->(List.replicate c l).flatten[k]? =l[k % l.length]?
 |0,k,h=>by simp at h
 |c+1,k,h=>by
  rw[replicate_succ,flatten_cons]
  by_cases D:k<l.length
  ·rw[getElem?_append_left D,Nat.mod_eq_of_lt D]
  ·rw[getElem?_append_right (by omega),kr l c (k-l.length) (by rw[Nat.add_mul]at h;omega),←Nat.mod_eq_sub_mod (by omega)]
theorem cb {α:Type} (l:List α):∀c:Nat,(List.replicate c l).flatten.length=c*l.length
 |0=>by simp
 |c+1=>by rw[replicate_succ,flatten_cons,length_append,cb l c,Nat.add_mul];omega
theorem fS {z:Array Value} (F:0<z.size) (c:Nat):(madeCells z (c*z.size)).toList=(List.replicate c z.toList).flatten:=by
 apply ext_getElem?
 intro k
 by_cases D:k<c*z.size
 ·rw[kr z.toList c k (by simpa using D)]
  have E:=Nat.mod_lt k F
  unfold madeCells
  simp[D,E,getElem!_pos z (k % z.size) E]
 ·rw[getElem?_eq_none (by simp[size_madeCells];omega),getElem?_eq_none (by rw[cb];simp;omega)]
theorem gI {τ:Store} {w:World} {zr:List AV} {us:List Value} (h:RepL τ w zr us):∀c:Nat,RepL τ w (List.replicate c zr).flatten (List.replicate c us).flatten
 |0=>by simp[RepL]
 |c+1=>by rw[replicate_succ,replicate_succ,flatten_cons,flatten_cons];exact RepL.append h (gI h c)
section
variable {G:Glob} {P:Program}
theorem lg (w:World) (V sT ty elem:TypeId) (g o E I sz:Nat) (a:Addr) (F N:Nat) (D:Array Value) (t:TypeId) (cs:List Value)
  (hu:P.underlying V=some (.slice elem)) (X:(P.info? elem).map (·.size)=some sz)
  (Z:w.heap[g]? =some (.cells D t (0,0))) (hn:cs.length=Nat.min F E*sz)
  (M:∀j v,cs[j]? =some v->w.cell? (a.add j)=some v) (J:o+cs.length<=D.size) (Y:∀v∈cs,v.oneCell'=true):
  (Builtin.copy_ #[V,sT] ty #[.slice (some ⟨g,o,none⟩) E I,.slice (some a) F N]).run P w=
   .ok (goInt (Nat.min F E)) (w.setRow g (D.toList.take o++cs++D.toList.drop (o+cs.length)).toArray):=by
 have hl:=run_loadCells_list (P:=P) w a cs M
 have T:=run_storeCells_at P g o t cs 0 D w Z (by simpa using J) Y
 cases O:P.info? elem with
 |none=>simp[O]at X
 |some i=>
  have hi:i.size=sz:=by simpa[O]using X
  simp[Builtin.copy_,run_underlying hu,Builtin.lenOf,Builtin.firstCells,sizeOf,typeInfo,O,hi,←hn,hl,T]
theorem kB (w:World) (J X ty elem:TypeId) (d a:Option Addr) (D F E I sz:Nat) (V:P.underlying J=some (.slice elem)) (T:(P.info? elem).map (·.size)=some sz) (O:Nat.min E D=0):
  (Builtin.copy_ #[J,X] ty #[.slice d D F,.slice a E I]).run P w= .ok (goInt 0) w:=by
 cases M:P.info? elem with
 |none=>simp[M]at T
 |some i=>
  have N:∀(x:Addr),(loadCells x 0).run P w= .ok #[] w:=λx=>by simpa using run_loadCells_list (P:=P) w x [] (by simp)
  cases d<;>cases a<;>simp[Builtin.copy_,run_underlying V,Builtin.lenOf,Builtin.firstCells,sizeOf,typeInfo,M,O,storeCells,N]
theorem iA {ty elem:TypeId} {i c sz bytes:Nat} {z:Value} {zr:List AV} {J:IntKind} {env:Env} {σ:Store} {K:AV->Store->Prop} (hi:env.get i= .int J (c:Nat)) (hu:P.underlying ty=some (.slice elem))
  (O:(P.info? elem).map (λi=>(i.zero,i.size,i.bytes))=some (some z,sz,bytes)) (V:z.cells.size=sz) (h0:0<sz) (F:∀v∈z.cells.toList,v.oneCell'=true) (hz:∀τ w,RepL τ w zr z.cells.toList)
  (hb:bytes*c<=281474976710656) (hc:c<1000000000)
  (hk:∀b,b∉σ.keys->K (.sc (.slice (some ⟨b,0,none⟩) c c)) ((b,.cells elem (List.replicate c zr).flatten)::σ)):RAW G P (.makeSlice ty (.tmp i) (.tmp i)) env σ K ⟨⟩:=by
 intro ρ w a op ho X hE
 have M:=hE i
 rw[hi]at M
 simp only[Rep]at M
 obtain⟨Y,T,I⟩:=Option.map_eq_some_iff.1 O
 simp only[Prod.mk.injEq]at I
 obtain⟨g1,g2,g3⟩:=I
 have Z:a.eval (.tmp i)= .int J (c:Nat):=M
 have N:(Y.bytes:Int)*((c:Nat):Int)<=281474976710656:=by
  rw[g3,←Int.natCast_mul];omega
 have D:=run_make (P:=P) w ty elem Y z hu T g1 J J (c:Nat) (c:Nat) (by omega) (by omega) N (by omega)
 simp only[Int.toNat_natCast,g2]at D
 have E:(w.alloc (.cells (madeCells z.cells (c*sz)) elem)).heap[w.heap.size]? =some (.cells (madeCells z.cells (c*sz)) elem (0,0)):=heap_alloc_new w _
 have hl:(madeCells z.cells (c*sz)).toList=(List.replicate c z.cells.toList).flatten:=by
  rw[←V];exact fS (by omega) c
 refine⟨_,_,.sc (.slice (some ⟨w.heap.size,0,none⟩) c c),_,.inl (by simp[execOp,ho,Z,D];exact rfl),hk _ (fk X),X.alloc _ _ ⟨_,E,?_,?_⟩,Ev.alloc _ _,by simp only[Rep]⟩
 ·intro v hv
  exact F v (lh (by omega) hv)
 ·rw[hl]
  exact gI (hz _ _) c
end
section
variable {G:Glob} {b c cap sz:Nat} {e:TypeId} {rows:List (List AV)} {pad:List AV} {σ ρ:Store} {w:World}
theorem Rep.freeze (N:Sat G ((b,.cells e (rows.flatten++pad))::σ++ρ) w) (hr:∀r∈rows,r.length=sz) (X:c=rows.length) (hl:rows.length<=cap) (hm:cap<=maxLen):
  Rep (σ++ρ) w (.lst sz rows) (.slice (some ⟨b,0,none⟩) c cap):=by
 subst X
 obtain⟨vs,Y,T,D⟩:=N.obj b _ (mem_append.2 (.inl (mem_cons_self ..)))
 have F:=N.nodup
 have V:b∉(σ++ρ).keys:=by
  rw[cons_append]at F
  exact(nodup_cons.1 F).1
 have I:Sub (σ++ρ) ((b,.cells e (rows.flatten++pad))::σ++ρ):=λp hp=>mem_cons_of_mem _ hp
 have ac:=D.length
 simp only[Rep]
 refine .inr ⟨_,_,rfl,hl,hm,ar.of_flat hr ?_⟩
 refine RepAt.of_get λj Z=>?_
 have J:j<(rows.flatten++pad).length:=by rw[length_append];omega
 have E:j<vs.toList.length:=by omega
 have O:=D.get j J E
 rw[getElem_append_left Z]at O
 rw[Nat.zero_mul,Nat.zero_add,add_lit,Nat.zero_add]
 have M:j<vs.size:=by simpa using E
 refine⟨vs.toList[j],⟨?_,?_⟩,T _ (getElem_mem E),Rep.sub I O⟩
 ·simp[World.cell?,Y,M]
 ·rintro⟨x,hx,_⟩
  exact V (mem_map.2 ⟨_,hx,rfl⟩)
theorem Weak.freeze {env:Env} {j:Nat} (M:env.get j= .sc (.slice (some ⟨b,0,none⟩) c cap)) (X:∀r∈rows,r.length=sz) (J:c=rows.length) (N:rows.length<=cap) (O:cap<=maxLen):
  Weak G env ((b,.cells e (rows.flatten++pad))::σ) (env.set j (.lst sz rows)) σ:=by
 intro ρ w tmps F E
 have D:SubN σ ((b,.cells e (rows.flatten++pad))::σ):=⟨λp V=>mem_cons_of_mem _ V,λT=>(nodup_cons.1 T).2⟩
 refine⟨F.subN D,Ev.of_sub D.1 w,λi=>?_⟩
 rw[Env.get_set]
 split
 ·rename_i I
  rw[←I]
  have h:=E j
  rw[M]at h
  simp only[Rep]at h
  rw[h]
  exact Rep.freeze F X J N O
 ·exact Rep.ev (Ev.of_sub D.1 w) _ _ (E i)
end
end Go.Av
