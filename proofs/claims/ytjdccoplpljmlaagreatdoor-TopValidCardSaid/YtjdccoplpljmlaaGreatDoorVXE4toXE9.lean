/-
  ENACT, 4: a unit moved: by the program and by the document.
-/
import Derived.Test.YtjdccoplpljmlaaGreatDoorVXC6toXE3
import Derived.Test.YtjdccoplpljmlaaGreatDoorVXL30toXL32
namespace Go.Av
open Go Go.RowKit Go.Proofs List
set_option linter.unusedSimpArgs false
set_option linter.unusedVariables false
def aL (i:Idd) (u:U):U:=match aM i u with
 |some (p,_,j)=>U.wth p.id (λy=>{y with kids:=cx y.kids j}) u
 |none=>u
def besides (wh:Int):Bool:=decide (wh=2\/wh=3)
def under (u:U) (i t:Idd):Bool:=decide (t≠i)&&(U.way t u).dropLast.any λy=>decide (y.id=i)
def eS (u:U) (i t:Idd) (wh:Int):Option (Idd×Nat):=match aM i u with
 |none=>none
 |some (own,_,j)=>
  if under u i t=true\/t=i/\besides wh=false then none
  else if t=i then some (own.id,j)
  else (spot u t wh).map λq=>(q.1,if q.1=own.id/\j<q.2 then q.2-1 else q.2)
def movP (u:U) (i t:Idd) (d:Dd):U×Int:=match eS u i t d.it.wh with
 |none=>(u,9)
 |some (q,k)=>
  if d9 (fnd q (aL i u)) (fnd q (aL i u)).kids (fnd i u)≠0 then (u,d9 (fnd q (aL i u)) (fnd q (aL i u)).kids (fnd i u))
  else if (q≠(parR i u).1.id/\64<=(fnd q (aL i u)).kids.length)\/8<(U.way q (aL i u)).length+(fnd i u).dep then (u,6)
  else (U.wth q (λy=>{y with kids:=bL y.kids k (fnd i u)}) (aL i u),0)
theorem cz {a b:List U} {k:U}:cx (a++k::b) a.length=a++b:=by
 unfold cx
 rw[take_left' rfl,←singleton_append,←append_assoc,drop_left' (by simp)]
theorem ways_del {t:Idd} {a b:List U} {k:U} (h:t∉k.ids):U.ways t (a++b)=U.ways t (a++k::b):=by
 rw[kH,kH,U.ways_cons,(dS k).2 h]
 rfl
theorem map_one {α β:Type} {f:α->β}:∀{l:List α},(l.map f).Nodup->∀{x y},x∈l->y∈l->f x=f y->x=y
 |[],_,_,_,hx,_,_=>by cases hx
 |a::l,hn,x,y,hx,hy,e=>by
  rw[map_cons,nodup_cons]at hn
  rcases mem_cons.1 hx with rfl|hx'<;>rcases mem_cons.1 hy with rfl|hy'
  ·rfl
  ·exact absurd (mem_map.2 ⟨y,hy',e.symm⟩) hn.1
  ·exact absurd (mem_map.2 ⟨x,hx',e⟩) hn.1
  ·exact map_one hn.2 hx' hy' e
theorem same_id {u x y:U} (E:u.ids.Nodup) (F:x∈u.flat) (I:y∈u.flat) (h:x.id=y.id):x=y:=map_one E F I h
theorem bI {i:Idd} (u:U) (E:u.ids.Nodup) (hi:i∈u.ids):fnd i u∈u.flat:=by
 refine U.wayInd (i:=i) (p:=λu=>fnd i u∈u.flat) ?_ ?_ u E hi
 ·intro u _ h
  rw[aQ (y:=u) (by rw[aV h];rfl),U.flat_eq];simp
 ·intro u a k b _ h s ih
  have:fnd i u=fnd i k:=by unfold fnd;rw[s.way h];have:=gx s.mem;cases F:U.way i k<;>simp_all[getLastD_cons]
  rw[this,U.flat_eq]
  exact mem_cons_of_mem _ (il (by rw[s.eq];simp) ih)
theorem Split.mem_ids {i q:Idd} {u k:U} {a b:List U} (s:Split i u.kids a k b) (E:q∈k.ids):q∈u.ids:=by
 rw[U.ids_eq,s.eq,U.idss_app,U.idss_cons]
 exact mem_cons_of_mem _ (mem_append.2 (.inr (mem_append.2 (.inl E))))
theorem Split.fnd {i q:Idd} {u k:U} {a b:List U} (F:u.ids.Nodup) (s:Split i u.kids a k b) (E:q∈k.ids):fnd q u=fnd q k:=by
 have I:=s.other (U.nd_kids F).1 E
 exact aQ (by rw[I.way (Split.ne F s E),getLast?_cons,(fj k s.nd E).2];rfl)
theorem mb {i q:Idd} {u:U} (E:u.ids.Nodup) (hi:i∈u.ids) (F:q∈(fnd i u).ids):q∈u.ids:=by
 have:=(fj u E hi).2
 exact jJ u _ (mem_of_getLast? this) q F
theorem fH {i t:Idd} (u:U) (F:u.ids.Nodup) (Y:t∈u.ids) (hi:i∈u.ids):(∃y∈U.way t u,y.id=i)↔t∈(fnd i u).ids:=by
 revert hi
 refine U.wayInd (i:=t) (p:=λu=>i∈u.ids->((∃y∈U.way t u,y.id=i)↔t∈(fnd i u).ids)) ?_ ?_ u F Y
 ·intro u F h hi
  rw[aV h]
  constructor
  ·rintro⟨y,E,e⟩
   simp only[mem_singleton]at E
   subst E
   rw[aQ (y:=y) (by rw[aV e];rfl),←h]
   exact mp y
  ·intro N
   refine⟨u,by simp,?_⟩
   apply Classical.byContradiction
   intro T
   rw[U.ids_eq,mem_cons]at hi
   obtain⟨a,k,b,s⟩:=eU (U.nd_kids F).1 (hi.resolve_left (Ne.symm T))
   rw[s.fnd F s.mem]at N
   exact Split.ne F s (mb s.nd s.mem N) h
 ·intro u a k b F h s ih hi
  rw[s.way h]
  by_cases O:u.id=i
  ·rw[aQ (y:=u) (by rw[aV O];rfl)]
   exact⟨λ_=>s.mem_ids s.mem,λ_=>⟨u,by simp,O⟩⟩
  ·by_cases I:i∈k.ids
   ·rw[s.fnd F I,←ih I]
    constructor
    ·rintro⟨y,E,e⟩
     rcases mem_cons.1 E with rfl|E
     ·exact absurd e O
     ·exact⟨y,E,e⟩
    ·rintro⟨y,E,e⟩
     exact⟨y,mem_cons_of_mem _ E,e⟩
   ·constructor
    ·rintro⟨y,E,e⟩
     rcases mem_cons.1 E with rfl|E
     ·exact absurd e O
     ·exact absurd (jJ k y E i (by rw[←e];exact mp y)) I
    ·intro N
     exfalso
     rw[U.ids_eq,mem_cons]at hi
     obtain⟨V,Z,X,M⟩:=eU (U.nd_kids F).1 (hi.resolve_left (Ne.symm O))
     rw[M.fnd F M.mem]at N
     have st:=M.other (U.nd_kids F).1 (mb M.nd M.mem N)
     have J:k∈V++Z::X:=by rw[←M.eq,s.eq];simp
     rcases mem_append.1 J with J|J
     ·exact st.left (iu J s.mem)
     ·rcases mem_cons.1 J with rfl|J
      ·exact I M.mem
      ·exact st.right (iu J s.mem)
theorem way_last {t:Idd} (u:U) (I:u.ids.Nodup) (F:t∈u.ids):U.way t u=(U.way t u).dropLast++[fnd t u]:=by
 have h:=(fj u I F).2
 have E:U.way t u≠[]:=cE.2 F
 rw[getLast?_eq_some_getLast E]at h
 injection h with h
 conv=>lhs;rw[←dropLast_concat_getLast E,h]
theorem iP {i t:Idd} (u:U) (F:u.ids.Nodup) (J:t∈u.ids) (hi:i∈u.ids):under u i t=true↔t≠i/\t∈(fnd i u).ids:=by
 unfold under
 rw[Bool.and_eq_true,decide_eq_true_eq,any_eq_true,←fH u F J hi]
 refine and_congr_right λI=>?_
 constructor
 ·rintro⟨y,E,e⟩
  exact⟨y,dropLast_subset _ E,by simpa using e⟩
 ·rintro⟨y,E,e⟩
  rw[way_last u F J]at E
  rcases mem_append.1 E with E|E
  ·exact⟨y,E,by simpa using e⟩
  ·simp only[mem_singleton]at E
   subst E
   exact absurd ((fj u F J).1.symm.trans e) I
/-! ### a tree of which one unit's child was gG -/
section
variable {u own x:U} {i:Idd} {d:Nat} {a b:List U}
theorem node_eq {u own:U} (E:u.ids.Nodup) (F:fnd own.id u=own) (I:own.id∈u.ids) {y:U} (J:y∈u.flat) (e:y.id=own.id):y=own:=by
 rw[←F]
 exact same_id E J (bI u E I) (by rw[F];exact e)
theorem way_out {t:Idd} (E:u.ids.Nodup) (F:Par i u own d a.length) (J:own.kids=a++x::b) (M:t∉x.ids):
  U.way t (U.wth own.id (λy=>{y with kids:=cx y.kids a.length}) u)=(U.way t u).map (U.wth own.id λy=>{y with kids:=cx y.kids a.length}):=
 way_wth u E λy N e=>by
  have I:=node_eq E F.fnd F.mem N e
  subst I
  refine⟨rfl,?_⟩
  simp only
  rw[J,cz,ways_del M]
theorem fY {β:Type} {j:Idd} {f:U->U} (key:U->β) (E:∀y,key (f y)=key y) (F:∀y ks,key {y with kids:=ks}=key y) (y:U):key (U.wth j f y)=key y:=by
 rw[U.wth_eq]
 split
 ·exact E y
 ·exact F y _
end
structure Goal (u:U) (t:Idd) (wh:Int) (P:U) (dp k:Nat):Prop where
 mem:P.id∈u.ids
 here:fnd P.id u=P
 deep:(U.way P.id u).length=dp+1
 spot:Go.Av.spot u t wh=some (P.id,k)
 ref:(if besides wh then (parR t u).1 else fnd t u)=P/\(if besides wh then (parR t u).2.1 else (U.way t u).length-1)=dp
 out:∀i,i∈u.ids->t∉(fnd i u).ids->P.id∉(fnd i u).ids
 pos:(wh=0/\k=0)\/(wh=1/\k=P.kids.length)\/((wh=2\/wh=3)/\∃j a y b,P.kids=a++y::b/\y.id=t/\j=a.length/\t∉U.idss a/\k=j+(if wh=2 then 1 else 0))
theorem mM {u:U} (N:u.ids.Nodup) {t:Idd} (J:t∈u.ids) {wh:Int} (h0:0<=wh) (h3:wh<=3) (O:¬(besides wh=true/\t=u.id)):∃P dp k,Goal u t wh P dp k:=by
 have E:(wh=0\/wh=1)\/(wh=2\/wh=3):=by omega
 rcases E with E|E
 ·have M:besides wh=false:=decide_eq_false (by omega)
  have hi:=fj u N J
  have hw:=gx J
  refine⟨fnd t u,(U.way t u).length-1,if wh=0 then 0 else (fnd t u).kids.length,?_,?_,?_,?_,?_,?_,?_⟩
  ·rw[hi.1];exact J
  ·rw[hi.1]
  ·rw[hi.1];omega
  ·unfold spot
   rw[hi.1]
   rcases E with rfl|rfl<;>simp
  ·rw[M];simp
  ·intro i Y h
   rw[hi.1];exact h
  ·rcases E with rfl|rfl<;>simp
 ·have M:besides wh=true:=decide_eq_true E
  have I:u.id≠t:=λe=>O ⟨M,e.symm⟩
  obtain⟨p,d,j,V,X,F⟩:=cg N J I
  obtain⟨a,k,b,s,hk,Z,hl⟩:=F.split
  refine⟨p,d,if wh=2 then j+1 else j,F.mem,F.fnd,F.deep,?_,?_,?_,?_⟩
  ·unfold spot
   rw[V]
   rcases E with rfl|rfl<;>simp
  ·rw[M,X];simp
  ·intro i hi h hm
   apply h
   have T:=(fH u N F.mem hi).2 hm
   rw[←fH u N J hi]
   obtain⟨y,hy,e⟩:=T
   exact⟨y,by rw[F.path];exact mem_append.2 (.inl hy),e⟩
  ·refine .inr (.inr ⟨E,j,a,k,b,s.eq,hk,Z,s.left,?_⟩)
   rcases E with rfl|rfl<;>simp
theorem cF (a b:Int):∀(l:List (List UInt8)) (m:Int),(aW a b l m).length=l.length
 |[],_=>rfl
 |s::l,m=>by rw[aW,length_cons,cF a b l,length_cons]
theorem lz (a b:Int):∀(l r:List (List UInt8)) (m:Int),aW a b (l++r) m=aW a b l m++aW a b r (m+l.length)
 |[],r,m=>by simp[aW]
 |s::l,r,m=>by
  rw[cons_append,aW,lz a b l r,aW,cons_append]
  simp only[length_cons]
  rw[show m+1+(l.length:Int)=m+((l.length+1:Nat):Int)by omega]
/-! ### where a row occurs -/
def occL (row:List (List UInt8)):Nat->Nat->List (List UInt8)->List Nat
 |_,_,[]=>[]
 |k+1,i,_::l=>occL row k (i+1) l
 |0,i,x::l=>if (x::l).take row.length=row then i::occL row (row.length-1) (i+1) l else occL row 0 (i+1) l
theorem lM (row:List (List UInt8)):∀(k i:Nat) (l:List (List UInt8)),occL row k i l=occL row 0 (i+k) (l.drop k)
 |0,i,l=>by simp
 |k+1,i,[]=>by simp[occL]
 |k+1,i,x::l=>by rw[occL,lM row k (i+1) l,drop_succ_cons,show i+1+k=i+(k+1)by omega]
theorem occL_hit {row:List (List UInt8)} {i:Nat} {l:List (List UInt8)} (F:row≠[]) (h:l.take row.length=row):occL row 0 i l=i::occL row 0 (i+row.length) (l.drop row.length):=by
 cases l with
 |nil=>rw[take_nil]at h;exact absurd h.symm F
 |cons x l=>
  have I:1<=row.length:=by cases row<;>simp_all
  rw[occL,if_pos h,lM]
  obtain⟨n,E⟩:∃n,row.length=n+1:=⟨row.length-1,by omega⟩
  rw[E,drop_succ_cons,show i+1+(n+1-1)=i+(n+1)by omega]
  rfl
theorem occL_miss {row:List (List UInt8)} {i:Nat} {l:List (List UInt8)} (h:l.take row.length≠row):occL row 0 i l=occL row 0 (i+1) (l.drop 1):=by
 cases l with
 |nil=>simp[occL]
 |cons x l=>rw[occL,if_neg h];rfl
theorem kL {row:List (List UInt8)}:∀{l:List (List UInt8)} {i:Nat},l.length<row.length->occL row 0 i l=[]
 |[],_,_=>by rw[occL]
 |x::l,i,h=>by
  rw[occL,if_neg,kL (by simp at h;omega)]
  intro e
  have:=congrArg List.length e
  simp at this h
  omega
def Gaps (n len:Nat):Nat->List Nat->Prop
 |_,[]=>True
 |s,p::ps=>s<=p/\p+len<=n/\Gaps n len (p+len) ps
theorem Gaps.from {n len:Nat}:∀{ps:List Nat} {s E:Nat},E<=s->Gaps n len s ps->Gaps n len E ps
 |[],_,_,_,_=>trivial
 |p::ps,s,E,h,⟨h1,h2,h3⟩=>⟨by omega,h2,h3⟩
theorem gh {row:List (List UInt8)} (F:row≠[]):∀(k i:Nat) (l:List (List UInt8)),k<=l.length->Gaps (i+l.length) row.length (i+k) (occL row k i l)
 |_,_,[],_=>by rw[occL];trivial
 |k+1,i,x::l,h=>by
  rw[occL]
  have:=gh F k (i+1) l (by simpa using h)
  rw[show i+(x::l).length=i+1+l.length by simp;omega,show i+(k+1)=i+1+k by omega]
  exact this
 |0,i,x::l,_=>by
  rw[occL]
  have I:1<=row.length:=by cases row<;>simp_all
  split
  ·rename_i e
   have E:row.length<=(x::l).length:=by
    have:=congrArg List.length e
    rw[length_take]at this
    omega
   have:=gh F (row.length-1) (i+1) l (by simp at E;omega)
   refine⟨by omega,by omega,?_⟩
   rw[show i+(x::l).length=i+1+l.length by simp;omega,show i+row.length=i+1+(row.length-1)by omega]
   exact this
  ·have:=gh F 0 (i+1) l (by omega)
   rw[show i+(x::l).length=i+1+l.length by simp;omega]
   exact this.from (by omega)
def occs (w:List Wd) (row:List (List UInt8)):List Nat:=occL row 0 0 (w.map Wd.text)
theorem gB {w:List Wd} {row:List (List UInt8)} (E:row≠[]):Gaps w.length row.length 0 (occs w row):=by
 have:=gh E 0 0 (w.map Wd.text) (by omega)
 simpa[occs]using this
def cB (ps:List Nat) (nth:Int):List Nat:=if nth=0 then ps else match ps[(nth-1).toNat]? with
 |some p=>[p]
 |none=>[]
theorem kz {n len:Nat}:∀{ps:List Nat} {s j:Nat} {p:Nat},Gaps n len s ps->ps[j]? =some p->s<=p/\p+len<=n
 |[],_,_,_,_,h=>by simp at h
 |q::ps,s,0,p,⟨h1,h2,_⟩,h=>by simp at h;subst h;exact⟨h1,h2⟩
 |q::ps,s,j+1,p,⟨h1,h2,h3⟩,h=>by
  have:=kz h3 (by simpa using h)
  omega
theorem eC {n len:Nat} {ps:List Nat} {nth:Int} (h:Gaps n len 0 ps):Gaps n len 0 (cB ps nth):=by
 unfold cB
 split
 ·exact h
 ·split
  ·rename_i p e
   have:=kz h e
   exact⟨by omega,this.2,trivial⟩
  ·trivial
/-! ### words put at places -/
def fz (w:List Wd) (E:List (List UInt8)) (a b:Int) (F:Nat):Nat->List Nat->Int->List Wd
 |s,[],_=>w.drop s
 |s,p::ps,m=>(w.take p).drop s++(aW a b E m++fz w E a b F (p+F) ps (m+E.length))
def putL (w:List Wd) (E:List (List UInt8)) (a b:Int) (F:Nat):List Nat->Int->List Wd
 |[],_=>w
 |p::ps,m=>(putL w E a b F ps (m+E.length)).take p++(aW a b E m++(putL w E a b F ps (m+E.length)).drop (p+F))
theorem i6 (w:List Wd) (F:List (List UInt8)) (a b:Int) (E:Nat):∀(ps:List Nat) (s:Nat) (m:Int),Gaps w.length E s ps->putL w F a b E ps m=w.take s++fz w F a b E s ps m
 |[],s,m,_=>by rw[putL,fz,take_append_drop]
 |p::ps,s,m,⟨h1,h2,h3⟩=>by
  rw[putL,i6 w F a b E ps (p+E) _ h3,fz]
  have I:(w.take (p+E)).length=p+E:=by rw[length_take];omega
  rw[take_append_of_le_length (by omega),drop_left' I,take_take,Nat.min_eq_left (by omega)]
  have:w.take p=w.take s++(w.take p).drop s:=by
   conv=>lhs;rw[←take_append_drop s (w.take p),take_take,Nat.min_eq_left h1]
  conv=>lhs;rw[this]
  rw[append_assoc]
def bJ (w:List Wd) (x:Itm) (a b:Int):List Wd×Int:=
 if x.kind=3/\x.old=[]then (if 256<(aW a b x.new 0++w).length then ([],6)else (aW a b x.new 0++w,0))
 else if cB (occs w x.old) x.nth=[]then ([],4)
 else if x.kind=3 then (if 256<(fz w x.new a b 0 0 ((cB (occs w x.old) x.nth).map (· +x.old.length)) 0).length then ([],6)else (fz w x.new a b 0 0 ((cB (occs w x.old) x.nth).map (· +x.old.length)) 0,0))
 else (if 256<(fz w x.new a b x.old.length 0 (cB (occs w x.old) x.nth) 0).length then ([],6)else (fz w x.new a b x.old.length 0 (cB (occs w x.old) x.nth) 0,0))
theorem ia {n len:Nat}:∀{ps:List Nat} {s:Nat},Gaps n len s ps->Gaps n 0 s (ps.map (· +len))
 |[],_,_=>trivial
 |p::ps,s,⟨h1,h2,h3⟩=>⟨(by show s<=p+len;omega),(by show p+len+0<=n;omega),(ia h3).from (by show p+len+0<=p+len;omega)⟩
/-! ### addresses -/
def aK (u:U) (s:Stp):Bool:=decide (u.kind=s.kind)&&decide (u.label=s.label)
def mh (s:Stp):Bool:=decide (s.kind=0)&&decide (s.label=[])
def aJ (l:List U) (s:Stp):List U:=l.flatMap λx=>x.kids.filter λk=>aK k s
def fI (u:U) (p:List Stp):List U:=
 if dP p=false then []else match p with
 |[]=>[u]
 |s::r=>r.foldl aJ (if mh s then [u]else u.flat.filter λx=>aK x s)
def one (u:U) (p:List Stp):Idd×Int:=match fI u p with
 |[]=>(⟨0,0,0⟩,7)
 |[x]=>(x.id,0)
 |_=>(⟨0,0,0⟩,8)
theorem iL {u x k:U} (E:x∈u.flat) (F:k∈x.kids):k∈u.flat:=by
 revert E
 refine U.ind (p:=λu=>x∈u.flat->k∈u.flat) (λu ih E=>?_) u
 rw[U.flat_eq]at E ⊢
 rcases mem_cons.1 E with rfl|E
 ·exact mem_cons_of_mem _ (il F (by rw[U.flat_eq];simp))
 ·have:∀{us:List U},x∈U.flats us->∃k∈us,x∈k.flat:=by
   intro us
   induction us with
   |nil=>intro h;rw[U.flats]at h;cases h
   |cons a us ih=>
    intro h
    rw[U.flats,mem_append]at h
    rcases h with h|h
    ·exact⟨a,by simp,h⟩
    ·obtain⟨k,F,E⟩:=ih h;exact⟨k,by simp[F],E⟩
  obtain⟨y,J,I⟩:=this E
  exact mem_cons_of_mem _ (il J (ih y J I))
theorem kF {u:U}:∀{r:List Stp} {l:List U},(∀x∈l,x∈u.flat)->∀x∈r.foldl aJ l,x∈u.flat
 |[],l,h,x,hx=>h x hx
 |s::r,l,h,x,hx=>kF (l:=aJ l s) (λy E=>by
   obtain⟨z,F,E⟩:=mem_flatMap.1 E
   exact iL (h z F) (mem_filter.1 E).1) x hx
theorem oF {u:U} {p:List Stp}:∀x∈fI u p,x∈u.flat:=by
 intro x E
 have I:u∈u.flat:=by rw[U.flat_eq];simp
 unfold fI at E
 split at E
 ·cases E
 ·split at E
  ·simp only[mem_singleton]at E;subst E;exact I
  ·refine kF ?_ x E
   intro y F
   split at F
   ·simp only[mem_singleton]at F;subst F;exact I
   ·exact(mem_filter.1 F).1
theorem cM {u:U} {p:List Stp} (h:(one u p).2=0):(one u p).1∈u.ids:=by
 have E:=oF (u:=u) (p:=p)
 unfold one at h ⊢
 split at h
 ·cases h
 ·rename_i x e
  rw[e]at E
  exact mem_map.2 ⟨x,E x (by simp),rfl⟩
 ·cases h
/-! ### an item applied -/
def chg (k:Int):Bool:=decide (0<=k)&&decide (k<=6)
def doP (u:U) (d:Dd):U×Int:=
 if chg d.it.kind=false\/d.it.may=false then (u,1)
 else if (one u d.it.at_).2≠0 then (u,(one u d.it.at_).2)
 else if d.it.kind=0 then insP u (one u d.it.at_).1 d
 else if (one u d.it.at_).1=u.id then (if d.it.kind=6/\(one u d.it.to_).2≠0 then (u,(one u d.it.to_).2)else (u,9))
 else if d.it.kind=1 then (aL (one u d.it.at_).1 u,0)
 else if d.it.kind=2\/d.it.kind=3 then
  (if (bJ (fnd (one u d.it.at_).1 u).words d.it d.act d.item).2≠0 then (u,(bJ (fnd (one u d.it.at_).1 u).words d.it d.act d.item).2)
   else (U.wth (one u d.it.at_).1 (λy=>{y with words:=(bJ (fnd (one u d.it.at_).1 u).words d.it d.act d.item).1}) u,0))
 else if d.it.kind=4 then (U.wth (one u d.it.at_).1 (λy=>{y with head:=aW d.act d.item d.it.new 0}) u,0)
 else if d.it.kind=5 then
  (if d9 (parR (one u d.it.at_).1 u).1 (parR (one u d.it.at_).1 u).1.kids {fnd (one u d.it.at_).1 u with label:=d.it.label}=10 then (u,10)
   else (U.wth (one u d.it.at_).1 (λy=>{y with label:=d.it.label}) u,0))
 else if (one u d.it.to_).2≠0 then (u,(one u d.it.to_).2)
 else movP u (one u d.it.at_).1 (one u d.it.to_).1 d
theorem cG (a b:List U):U.flats (a++b)=U.flats a++U.flats b:=by
 induction a with
 |nil=>rw[bl];rfl
 |cons x a ih=>rw[cons_append,aG,aG,ih,append_assoc]
theorem d6 (a b:List U):U.deeps (a++b)=max (U.deeps a) (U.deeps b):=by
 induction a with
 |nil=>rw[U.deeps];simp
 |cons x a ih=>rw[cons_append,U.deeps,U.deeps,ih];omega
theorem bT {us:List U} {x:U} (h:x∈U.flats us):∃k∈us,x∈k.flat:=ig h
theorem mB {i:Idd} {f:U->U} (u:U) (E:u.ids.Nodup) (hi:i∈u.ids):∃l r,u.ids=l++((fnd i u).ids++r)/\(U.wth i f u).ids=l++((f (fnd i u)).ids++r):=by
 refine U.wayInd (i:=i) (p:=λu=>∃l r,u.ids=l++((fnd i u).ids++r)/\(U.wth i f u).ids=l++((f (fnd i u)).ids++r)) ?_ ?_ u E hi
 ·intro u _ h
  have e:fnd i u=u:=aQ (by rw[aV h];rfl)
  refine⟨[],[],?_,?_⟩
  ·rw[e];simp
  ·rw[cC h,e];simp
 ·intro u a k b E h s ⟨l,r,e1,e2⟩
  rw[s.fnd E s.mem]
  refine⟨u.id::(U.idss a++l),r++U.idss b,?_,?_⟩
  ·rw[U.ids_eq,s.eq,U.idss_app,U.idss_cons,e1];simp[append_assoc]
  ·rw[s.wth h,U.ids_eq]
   simp only
   rw[U.idss_app,U.idss_cons,e2];simp[append_assoc]
theorem km {i:Idd} {f:U->U} (u:U) (E:u.ids.Nodup) (hi:i∈u.ids):(U.wth i f u).deep<=max u.deep ((U.way i u).length-1+(f (fnd i u)).deep)/\(U.way i u).length-1+(fnd i u).deep<=u.deep:=by
 refine U.wayInd (i:=i) (p:=λu=>(U.wth i f u).deep<=max u.deep ((U.way i u).length-1+(f (fnd i u)).deep)/\(U.way i u).length-1+(fnd i u).deep<=u.deep) ?_ ?_ u E hi
 ·intro u _ h
  have e:fnd i u=u:=aQ (by rw[aV h];rfl)
  rw[cC h,e,aV h]
  simp only[length_cons,length_nil]
  omega
 ·intro u a k b E h s ⟨h1,h2⟩
  have:=gx s.mem
  rw[s.fnd E s.mem,s.wth h,s.way h,U.deep_eq,U.deep_eq u,s.eq]
  simp only[length_cons]
  rw[d6,d6,U.deeps,U.deeps]
  omega
def U.key (u:U):Int×List UInt8:=(u.kind,u.label)
theorem fP {y z:U} (I:z.kind=y.kind) (T:z.label=y.label) (F:aX z.head=aX y.head/\z.head.length=y.head.length) (J:aX z.words=aX y.words/\z.words.length=y.words.length) (E:z.kids.map U.key=y.kids.map U.key):nodeOk z=nodeOk y:=by
 have M:z.kids.length=y.kids.length:=by have:=congrArg List.length E;simpa using this
 have N:(z.kids.all λk=>bt z.kind k.kind)=y.kids.all λk=>bt y.kind k.kind:=by
  have:∀l:List U,∀p:Int,(l.all λk=>bt p k.kind)=(l.map U.key).all λq=>bt p q.1:=λl p=>by rw[all_map];rfl
  rw[this,this,E,I]
 have O:Apart z.kids↔Apart y.kids:=by unfold Apart;exact Iff.of_eq (congrArg List.Nodup E)
 unfold nodeOk own1
 rw[M,N,decide_eq_decide.2 O,I,T,F.1,F.2,J.1,J.2]
theorem gg {i:Idd} {f:U->U} (J:∀y,(f y).key=y.key) (u:U) (O:u.ids.Nodup) (hi:i∈u.ids) (I:∀y∈u.flat,nodeOk y=true) (E:∀z∈(f (fnd i u)).flat,nodeOk z=true):∀z∈(U.wth i f u).flat,nodeOk z=true:=by
 revert I E
 refine U.wayInd (i:=i) (p:=λu=>(∀y∈u.flat,nodeOk y=true)->(∀z∈(f (fnd i u)).flat,nodeOk z=true)->∀z∈(U.wth i f u).flat,nodeOk z=true) ?_ ?_ u O hi
 ·intro u _ h I E
  have e:fnd i u=u:=aQ (by rw[aV h];rfl)
  rw[cC h]
  rw[e]at E
  exact E
 ·intro u a k b O h s ih I E z F
  rw[s.fnd O s.mem]at E
  have N:∀y∈k.flat,nodeOk y=true:=λy M=>I y (U.flat_kid (by rw[s.eq];simp) M)
  rw[s.wth h,U.flat_eq]at F
  rcases mem_cons.1 F with rfl|F
  ·rw[←I u u.flat_self]
   refine fP rfl rfl ⟨rfl,rfl⟩ ⟨rfl,rfl⟩ ?_
   simp only
   rw[s.eq,map_append,map_append,map_cons,map_cons,fY U.key J (λ_ _=>rfl)]
  ·simp only at F
   rw[cG,aG,mem_append,mem_append]at F
   rcases F with F|F|F
   ·obtain⟨y,M,F⟩:=bT F
    exact I z (U.flat_kid (by rw[s.eq];simp[M]) F)
   ·exact ih N E z F
   ·obtain⟨y,M,F⟩:=bT F
    exact I z (U.flat_kid (by rw[s.eq];simp[M]) F)
theorem nu {i:Idd} {s0:List UInt8} (u:U) (hn:u.ids.Nodup) (hi:i∈u.ids) (T:u.id≠i) (N:∀y∈u.flat,nodeOk y=true) (hl:bc s0=true)
  (Y:∀p d j,aM i u=some (p,d,j)->gG p.kids (fnd i u).kind s0=false) (M:(fnd i u).kind≠0):∀z∈(U.wth i (λy=>{y with label:=s0}) u).flat,nodeOk z=true:=by
 revert T N Y M
 refine U.wayInd (i:=i) (p:=λu=>u.id≠i->(∀y∈u.flat,nodeOk y=true)->(∀p d j,aM i u=some (p,d,j)->gG p.kids (fnd i u).kind s0=false)->(fnd i u).kind≠0->∀z∈(U.wth i (λy=>{y with label:=s0}) u).flat,nodeOk z=true) ?_ ?_ u hn hi
 ·intro u _ h T
  exact absurd h T
 ·intro u a k b hn h s ih _ N Y M z E
  rw[s.fnd hn s.mem]at Y M
  have O:∀y∈k.flat,nodeOk y=true:=λy I=>N y (U.flat_kid (by rw[s.eq];simp) I)
  have F:∀y,y∈U.flats a\/y∈U.flats b->nodeOk y=true:=by
   intro y I
   rcases I with I|I<;>
   ·obtain⟨q,hq,I⟩:=bT I
    exact N y (U.flat_kid (by rw[s.eq];simp[hq]) I)
  rw[s.wth h,U.flat_eq]at E
  simp only at E
  rw[cG,aG,mem_cons,mem_append,mem_append]at E
  by_cases X:k.id=i
  ·have ad:fnd i k=k:=aQ (by rw[aV X];rfl)
   rw[ad]at Y M
   have V:=Y u 0 a.length (jY h s X)
   rw[cC X]at E
   rcases E with rfl|E|E|E
   ·have Z:=N u u.flat_self
    unfold nodeOk at Z ⊢
    simp only[Bool.and_eq_true,decide_eq_true_eq]at Z ⊢
    refine⟨Z.1,⟨?_,?_⟩,?_⟩
    ·rw[all_append,all_cons]
     have:=Z.2.1.1
     rw[s.eq,all_append,all_cons]at this
     exact this
    ·have:=Z.2.1.2
     unfold Apart at this ⊢
     rw[s.eq,map_append,map_cons]at this
     rw[map_append,map_cons]
     unfold gG at V
     rw[any_eq_false]at V
     have ac:∀y∈u.kids,(y.kind,y.label)≠(k.kind,s0):=λy I e=>by
      have:=V y I
      injection e with e1 e2
      simp[e1,e2]at this
     obtain⟨n1,n2,n3⟩:=nodup_append.1 this
     rw[nodup_cons]at n2
     refine nodup_append.2 ⟨n1,nodup_cons.2 ⟨?_,n2.2⟩,?_⟩
     ·intro hm
      obtain⟨y,I,e⟩:=mem_map.1 hm
      exact ac y (by rw[s.eq];simp[I]) e
     ·intro x hx y I e
      obtain⟨x',ag,ex⟩:=mem_map.1 hx
      rcases mem_cons.1 I with I|I
      ·exact ac x' (by rw[s.eq];simp[ag]) (ex.trans (e.trans I))
      ·exact n3 x hx y (mem_cons_of_mem _ I) e
    ·have:=Z.2.2
     rw[s.eq]at this
     simp at this ⊢
     exact this
   ·exact F z (.inl E)
   ·rw[U.flat_eq]at E
    rcases mem_cons.1 E with rfl|E
    ·have J:=O k k.flat_self
     unfold nodeOk own1 at J ⊢
     simp only at J ⊢
     rw[if_neg M]at J ⊢
     simp only[Bool.and_eq_true]at J ⊢
     exact⟨⟨J.1.1,hl,J.1.2.2⟩,J.2⟩
    ·exact O z (by rw[U.flat_eq];exact mem_cons_of_mem _ E)
   ·exact F z (.inr E)
  ·rcases E with rfl|E|E|E
   ·rw[←N u u.flat_self]
    refine fP rfl rfl ⟨rfl,rfl⟩ ⟨rfl,rfl⟩ ?_
    simp only
    rw[s.eq,map_append,map_append,map_cons,map_cons]
    have:(U.wth i (λy=>{y with label:=s0}) k).key=k.key:=by
     rw[U.wth_eq,if_neg X];rfl
    rw[this]
   ·exact F z (.inl E)
   ·refine ih X O (λp d j e=>?_) M z E
    exact Y p (d+1) j (by rw[jf h s X,e];rfl)
   ·exact F z (.inr E)
end Go.Av
