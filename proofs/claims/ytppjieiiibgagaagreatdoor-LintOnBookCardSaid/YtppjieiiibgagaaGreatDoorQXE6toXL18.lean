/-
  ENACT, 6: a unit moved: the program does what the document says.
-/
import Derived.Test.YtppjieiiibgagaaGreatDoorQXE1toXE5
import Derived.Test.YtppjieiiibgagaaGreatDoorQXL16toXFrN
set_option linter.all false
namespace Go.Av
open Go Go.RowKit Go.Proofs List
def iI {l:List U} {k:Nat} (h:k<l.length):(aN l k).length=l.length-1:=by
 unfold aN;rw[length_append,length_take,length_drop];omega
structure Goal (u:U) (t:Idd) (wh:Int) (P:U) (dp k:Nat):Prop where
 mem:P.id∈u.ids
 here:fnd P.id u=P
 deep:(U.way P.id u).length=dp+1
 spot:Go.Av.spot u t wh=some (P.id,k)
 ref:(if besides wh then (parR t u).1 else fnd t u)=P/\(if besides wh then (parR t u).2.1 else (U.way t u).length-1)=dp
 out:∀i,i∈u.ids->t∉(fnd i u).ids->P.id∉(fnd i u).ids
 pos:(wh=0/\k=0)\/(wh=1/\k=P.kids.length)\/((wh=2\/wh=3)/\∃j a y b,P.kids=a++y::b/\y.id=t/\j=a.length/\t∉U.idss a/\k=j+(if wh=2 then 1 else 0))
def jE {u:U} (M:u.ids.Nodup) {t:Idd} (I:t∈u.ids) {wh:Int} (h0:0<=wh) (h3:wh<=3) (N:¬(besides wh=true/\t=u.id)):∃P dp k,Goal u t wh P dp k:=by
 have D:(wh=0\/wh=1)\/(wh=2\/wh=3):=by omega
 rcases D with D|D
 ·have J:besides wh=false:=decide_eq_false (by omega);have hi:=dH u M I;have hw:=eA I;refine⟨fnd t u,(U.way t u).length-1,if wh=0 then 0 else (fnd t u).kids.length,?_,?_,?_,?_,?_,?_,?_⟩
  ·rw[hi.1];exact I
  ·rw[hi.1]
  ·rw[hi.1];omega
  ·unfold spot;rw[hi.1]
   rcases D with rfl|rfl<;>simp
  ·rw[J];simp
  ·intro i X h;rw[hi.1];exact h
  ·rcases D with rfl|rfl<;>simp
 ·have J:besides wh=true:=decide_eq_true D;have F:u.id≠t:=λe=>N ⟨J,e.symm⟩;obtain⟨p,d,j,T,V,E⟩:=br M I F;obtain⟨a,k,b,s,Z,Y,hl⟩:=E.split;refine⟨p,d,if wh=2 then j+1 else j,E.mem,E.fnd,E.deep,?_,?_,?_,?_⟩
  ·unfold spot;rw[T]
   rcases D with rfl|rfl<;>simp
  ·rw[J,V];simp
  ·intro i hi h hm;apply h;have O:=(gN u M E.mem hi).2 hm;rw[←gN u M I hi];obtain⟨y,hy,e⟩:=O;exact⟨y,by rw[E.path];exact mem_append.2 (.inl hy),e⟩
  ·refine .inr (.inr ⟨D,j,a,k,b,s.eq,Z,Y,s.left,?_⟩)
   rcases D with rfl|rfl<;>simp
def kl {a b:List U} {y:U} {t:Idd} (D:t∉U.idss a) (E:y.id=t):firstAt (λk=>decide (k.id=t)) (a++y::b)=some a.length:=
 gO (ig D) (decide_eq_true E)
def qB {a b:List U} {y:U} {j:Nat} (h:j<a.length):aN (a++y::b) j=aN a j++y::b:=by
 unfold aN;rw[take_append_of_le_length (by omega),drop_append_of_le_length (by omega),append_assoc]
def qg {a b:List U} {y:U} {j:Nat} (h:a.length<j):aN (a++y::b) j=a++y::aN b (j-a.length-1):=by
 unfold aN;obtain⟨m,rfl⟩:∃m,j=a.length+(m+1):=⟨j-a.length-1,by omega⟩;rw[take_length_add_append,show a.length+(m+1)+1=a.length+(m+2)by omega,drop_length_add_append];simp
def idss_del {t:Idd} {a:List U} {j:Nat} (h:t∉U.idss a):t∉U.idss (aN a j):=by
 unfold aN;rw[rO,mem_append,not_or]
 have E:U.idss a=U.idss (a.take j)++U.idss (a.drop j):=by rw[←rO,take_append_drop]
 have F:U.idss a=U.idss (a.take (j+1))++U.idss (a.drop (j+1)):=by rw[←rO,take_append_drop]
 exact⟨λD=>h (by rw[E];exact mem_append.2 (.inl D)),λD=>h (by rw[F];exact mem_append.2 (.inr D))⟩
def mov_eq (u:U) (T:u.ids.Nodup) (bm:∀y∈u.flat,y.kids.length<=64) (i t:Idd) (hi:i∈u.ids) (ht:t∈u.ids) (ac:i≠u.id) (d:Dd) (h0:0<=d.it.wh) (h3:d.it.wh<=3):movR u i t d=movP u i t d:=by
 obtain⟨own,dO,j,w1,w2,J⟩:=br T hi (Ne.symm ac);obtain⟨a,x,b,s,hx,hj,hl⟩:=J.split;have ah:fnd i u=x:=aI hl;have d0:x.ids.Nodup:=s.nd;have E:=way_two (t:=t) x d0;rw[hx]at E;have Y:=iE u T ht hi;rw[ah]at Y
 have be:own∈u.flat:=by
  have:=aU u T J.mem;rw[J.fnd]at this;exact this
 have d1:own.kids.length=a.length+b.length+1:=by rw[s.eq];simp;omega
 have d3:=bm own be;subst hj
 have hW:without i u=U.wth own.id (λy=>{y with kids:=aN y.kids a.length}) u:=by unfold without;rw[w1]
 unfold movR movP fH;simp only[w1,w2,ah,hW,cN];by_cases hu:kC u i t=true
 ·have cw:=Y.1 hu;rw[if_pos (.inr (.inr (.inl (E.1.2 cw)))),if_pos (.inl hu)]
 by_cases I:t=i
 ·subst I;by_cases hb:besides d.it.wh=true
  ·have c1:¬(t=u.id\/besides d.it.wh=true/\t=u.id\/1<(U.way t x).length\/(U.way t x).length=1/\besides d.it.wh=false):=by
    rintro(h|h|h|h)
    ·exact ac h
    ·exact ac h.2
    ·exact(E.1.1 h).1 rfl
    ·rw[hb]at h;cases h.2
   have c2:¬(kC u t t=true\/t=t/\besides d.it.wh=false):=by
    rintro(h|h)
    ·exact hu h
    ·rw[hb]at h;cases h.2
   have hq:own.id∉x.ids:=by
    have:=(rU J.nd).2;rw[s.eq,rO,hJ]at this;exact λh=>this (mem_append.2 (.inr (mem_append.2 (.inl h))))
   have D:=jH (t:=own.id) T J s.eq hq
   have aa:fnd own.id (U.wth own.id (λy=>{y with kids:=aN y.kids a.length}) u)={own with kids:=a++b}:=by
    refine aI ?_;rw[D,getLast?_map,J.last,Option.map_some,bz rfl,s.eq,bM]
   rw[if_neg c1,if_neg c2,if_pos rfl];simp only[hb,if_true,aa,w2];rw[D,length_map,J.deep,s.eq,bM];have V:bR {own with kids:=a++b} (a++b) x=bR own (a++b) x:=rfl;rw[V]
   have N:¬64<=(a++b).length:=by rw[length_append];omega
   have e3:U.wth own.id (λy=>{y with kids:=aX y.kids a.length x}) (U.wth own.id (λy=>{y with kids:=aN y.kids a.length}) u)=u:=by
    rw[wth_wth (f:=λy=>{y with kids:=aN y.kids a.length}) u T J.mem λy e=>e];refine wth_self u T J.mem ?_;rw[J.fnd];simp only;rw[s.eq,bM,pL,←s.eq]
    cases own;rfl
   rw[e3];split
   ·rfl
   ·simp only[N,false_or,ne_eq,not_true_eq_false,false_and];norm_cast
  ·have aw:besides d.it.wh=false:=by simpa using hb
   rw[if_pos (.inr (.inr (.inr ⟨E.2.2 rfl,aw⟩))),if_pos (.inr ⟨rfl,aw⟩)]
 ·have bk:t∉x.ids:=λh=>hu (Y.2 ⟨I,h⟩);by_cases hr:besides d.it.wh=true/\t=u.id
  ·have hs:spot u t d.it.wh=none:=by
    have hh:d.it.wh=2\/d.it.wh=3:=by simpa[besides]using hr.1
    unfold spot;rw[cO hr.2.symm]
    rcases hh with h|h<;>simp[h]
   rw[if_pos (.inr (.inl hr)),if_neg (by rintro(h|h);exact hu h;exact I h.1),if_neg I,hs];rfl
  ·obtain⟨P,deep,k,O⟩:=jE T ht h0 h3 hr
   have c1:¬(i=u.id\/besides d.it.wh=true/\t=u.id\/1<(U.way t x).length\/(U.way t x).length=1/\besides d.it.wh=false):=by
    rintro(h|h|h|h)
    ·exact ac h
    ·exact hr h
    ·exact bk (E.1.1 h).2
    ·exact I (E.2.1 h.1)
   have c2:¬(kC u i t=true\/t=i/\besides d.it.wh=false):=by
    rintro(h|h)
    ·exact hu h
    ·exact I h.1
   rw[if_neg c1,if_neg c2,if_neg I,O.spot,O.ref.1,O.ref.2];simp only[Option.map_some,if_neg I]
   have bn:P.id∉x.ids:=by
    have:=O.out i hi;rw[ah]at this;exact this bk
   have D:=jH (t:=P.id) T J s.eq bn;obtain⟨F,hF⟩:∃F:U->U,F=λy=>{y with kids:=aN y.kids a.length}:=⟨_,rfl⟩;rw[←hF]at D ⊢
   have aa:fnd P.id (U.wth own.id F u)=U.wth own.id F P:=by
    refine aI ?_;rw[D,getLast?_map,(dH u T O.mem).2,O.here];rfl
   have bh:U.put {own with kids:=aN own.kids a.length} u=U.wth own.id F u:=by
    have:=fG u T J.mem λl=>aN l a.length;rw[J.fnd]at this;rw[hF];exact this
   rw[bh,aa];have al:(U.wth own.id F P).kind=P.kind:=ez U.kind (λy=>by rw[hF]) (λ_ _=>rfl) P;have hid:(U.wth own.id F P).id=P.id:=ez U.id (λy=>by rw[hF]) (λ_ _=>rfl) P
   have M:∀{β:Type} (key:U->β),(∀y ks,key {y with kids:=ks}=key y)->(U.wth own.id F P).kids.map key=(cN P own a.length).map key:=by
    intro β key hk;unfold cN;by_cases Z:own.id=P.id
    ·have e:P=own:=by rw[←O.here,←Z,J.fnd]
     subst e;rw[if_pos rfl,bz rfl,hF]
    ·rw[if_neg Z,sh,if_neg (Ne.symm Z)];simp only;exact kd key (ez key (λy=>by rw[hF];exact hk y _) hk) P.kids
   have cp:bR (U.wth own.id F P) (U.wth own.id F P).kids x=bR P (cN P own a.length) x:=by
    unfold bR;rw[al,qM (M (λy=>(y.kind,y.label)) λ_ _=>rfl)]
   have bd:(U.wth own.id F P).kids.length=(cN P own a.length).length:=by
    have:=congrArg List.length (M U.id λ_ _=>rfl);simpa using this
   have an:(if own.id=P.id then aN P.kids a.length else P.kids)=cN P own a.length:=rfl;rw[an,cp,bd,D,length_map,O.deep];split
   ·rfl
   ·have X:(64<=(cN P own a.length).length\/8<(deep:Int)+1+x.dep)↔(P.id≠own.id/\64<=(cN P own a.length).length\/8<((deep+1:Nat):Int)+x.dep):=by
     have e5:((deep+1:Nat):Int)=(deep:Int)+1:=by omega
     rw[e5];by_cases Z:own.id=P.id
     ·have e:P=own:=by rw[←O.here,←Z,J.fnd]
      subst e
      have:¬64<=(cN P P a.length).length:=by
       unfold cN;rw[if_pos rfl,iI (by omega)];omega
      simp[this]
     ·simp[Ne.symm Z]
    by_cases hc:64<=(cN P own a.length).length\/8<(deep:Int)+1+x.dep
    ·rw[if_pos hc,if_pos (X.1 hc)]
    ·rw[if_neg hc,if_neg λh=>hc (X.2 h)]
     have bo:atR (U.wth own.id F P).kids t d.it.wh=if P.id=own.id/\a.length<k then k-1 else k:=by
      have bb:firstAt (λk=>decide (k.id=t)) (U.wth own.id F P).kids=firstAt (λk=>decide (k.id=t)) (cN P own a.length):=rq (M U.id λ_ _=>rfl) t;unfold atR;rw[bd,bb];unfold cN;by_cases Z:own.id=P.id
      ·have e:P=own:=by rw[←O.here,←Z,J.fnd]
       subst e;rw[if_pos rfl]
       rcases O.pos with⟨V,N⟩|⟨V,N⟩|⟨V,j',a',y,b',N,e3,e4,e5,e6⟩
       ·simp[V,N]
       ·rw[V,N,iI (by omega)];simp only[show ¬((1:Int)=0)by decide,if_false,if_true,true_and];rw[if_pos (by omega)]
       ·have n0:¬d.it.wh=0:=by omega
        have n1:¬d.it.wh=1:=by omega
        rw[if_neg n0,if_neg n1,N];subst e4
        have d2:a'.length≠a.length:=by
         intro e;have h1:=s.eq;rw[N]at h1;have:=(append_inj h1 e).2
         injection this with this
         exact I (e3.symm.trans ((congrArg U.id this).trans hx))
        subst e6;obtain⟨w,hw⟩:∃w:Nat,(if d.it.wh=2 then 1 else 0)=w:=⟨_,rfl⟩
        have dc:w<=1:=by rw[←hw];split<;>omega
        rw[hw]
        have bs:∃m,firstAt (λk=>decide (k.id=t)) (aN (a'++y::b') a.length)=some m/\m=if a.length<a'.length then a'.length-1 else a'.length:=by
         by_cases ad:a.length<a'.length
         ·rw[qB ad,kl (idss_del e5) e3,iI ad,if_pos ad];exact⟨_,rfl,rfl⟩
         ·rw[qg (by omega),kl e5 e3,if_neg ad];exact⟨_,rfl,rfl⟩
        obtain⟨m,hm,bx⟩:=bs;rw[hm];simp only[Option.getD_some,true_and];rw[bx];split<;>split<;>omega
      ·rw[if_neg Z];have cm:¬(P.id=own.id/\a.length<k):=λh=>Z h.1.symm;rw[if_neg cm]
       rcases O.pos with⟨V,N⟩|⟨V,N⟩|⟨V,j',a',y,b',N,e3,e4,e5,e6⟩
       ·simp[V,N]
       ·simp[V,N]
       ·have n0:¬d.it.wh=0:=by omega
        have n1:¬d.it.wh=1:=by omega
        rw[if_neg n0,if_neg n1,N,kl e5 e3,e6,e4];rfl
     rw[bo]
     have ch:(U.wth own.id F u).ids.Nodup:=by
      refine T.sublist (wth_sub u T J.mem ?_);rw[J.fnd,hF];simp only;rw[rb,rb own,s.eq,bM,rO,rO,hJ];exact((List.Sublist.refl _).append (sublist_append_right _ _)).cons_cons _
     have bw:P.id∈(U.wth own.id F u).ids:=by
      refine ct.1 ?_;rw[D];have:=ct.2 O.mem;simpa using this
     have:=fG (U.wth own.id F u) ch bw λl=>aX l (if P.id=own.id/\a.length<k then k-1 else k) x;rw[aa]at this;rw[this]
def bG (a b:Int):∀(l:List (List UInt8)) (m:Int),(aL a b l m).length=l.length
 |[],_=>rfl
 |s::l,m=>by rw[aL,length_cons,bG a b l,length_cons]
def nw (a b:Int):∀(l r:List (List UInt8)) (m:Int),aL a b (l++r) m=aL a b l m++aL a b r (m+l.length)
 |[],r,m=>by simp[aL]
 |s::l,r,m=>by
  rw[cons_append,aL,nw a b l r,aL,cons_append];simp only[length_cons];rw[show m+1+(l.length:Int)=m+((l.length+1:Nat):Int)by omega]
/-! ### where a row occurs -/
def occL (row:List (List UInt8)):Nat->Nat->List (List UInt8)->List Nat
 |_,_,[]=>[]
 |k+1,i,_::l=>occL row k (i+1) l
 |0,i,x::l=>if (x::l).take row.length=row then i::occL row (row.length-1) (i+1) l else occL row 0 (i+1) l
def nl (row:List (List UInt8)):∀(k i:Nat) (l:List (List UInt8)),occL row k i l=occL row 0 (i+k) (l.drop k)
 |0,i,l=>by simp
 |k+1,i,[]=>by simp[occL]
 |k+1,i,x::l=>by rw[occL,nl row k (i+1) l,drop_succ_cons,show i+1+k=i+(k+1)by omega]
def pi {row:List (List UInt8)} {i:Nat} {l:List (List UInt8)} (E:row≠[]) (h:l.take row.length=row):occL row 0 i l=i::occL row 0 (i+row.length) (l.drop row.length):=by
 cases l with
 |nil=>rw[take_nil]at h;exact absurd h.symm E
 |cons x l=>
  have F:1<=row.length:=by cases row<;>simp_all
  rw[occL,if_pos h,nl];obtain⟨n,D⟩:∃n,row.length=n+1:=⟨row.length-1,by omega⟩;rw[D,drop_succ_cons,show i+1+(n+1-1)=i+(n+1)by omega];rfl
def nt {row:List (List UInt8)} {i:Nat} {l:List (List UInt8)} (h:l.take row.length≠row):occL row 0 i l=occL row 0 (i+1) (l.drop 1):=by
 cases l with
 |nil=>simp[occL]
 |cons x l=>rw[occL,if_neg h];rfl
def mh {row:List (List UInt8)}:∀{l:List (List UInt8)} {i:Nat},l.length<row.length->occL row 0 i l=[]
 |[],_,_=>by rw[occL]
 |x::l,i,h=>by
  rw[occL,if_neg,mh (by simp at h;omega)];intro e;have:=congrArg List.length e;simp at this h;omega
def Gaps (n len:Nat):Nat->List Nat->Prop
 |_,[]=>True
 |s,p::ps=>s<=p/\p+len<=n/\Gaps n len (p+len) ps
def Gaps.from {n len:Nat}:∀{ps:List Nat} {s D:Nat},D<=s->Gaps n len s ps->Gaps n len D ps
 |[],_,_,_,_=>trivial
 |p::ps,s,D,h,⟨h1,h2,h3⟩=>⟨by omega,h2,h3⟩
def iq {row:List (List UInt8)} (E:row≠[]):∀(k i:Nat) (l:List (List UInt8)),k<=l.length->Gaps (i+l.length) row.length (i+k) (occL row k i l)
 |_,_,[],_=>by rw[occL];trivial
 |k+1,i,x::l,h=>by
  rw[occL];have:=iq E k (i+1) l (by simpa using h);rw[show i+(x::l).length=i+1+l.length by simp;omega,show i+(k+1)=i+1+k by omega];exact this
 |0,i,x::l,_=>by
  rw[occL]
  have F:1<=row.length:=by cases row<;>simp_all
  split
  ·rename_i e
   have D:row.length<=(x::l).length:=by
    have:=congrArg List.length e;rw[length_take]at this;omega
   have:=iq E (row.length-1) (i+1) l (by simp at D;omega);refine⟨by omega,by omega,?_⟩;rw[show i+(x::l).length=i+1+l.length by simp;omega,show i+row.length=i+1+(row.length-1)by omega];exact this
  ·have:=iq E 0 (i+1) l (by omega);rw[show i+(x::l).length=i+1+l.length by simp;omega];exact this.from (by omega)
def occs (w:List Wd) (row:List (List UInt8)):List Nat:=occL row 0 0 (w.map Wd.text)
def ga {w:List Wd} {row:List (List UInt8)} (D:row≠[]):Gaps w.length row.length 0 (occs w row):=by
 have:=iq D 0 0 (w.map Wd.text) (by omega);simpa[occs]using this
def bP (ps:List Nat) (nth:Int):List Nat:=if nth=0 then ps else match ps[(nth-1).toNat]? with
 |some p=>[p]
 |none=>[]
def lN {n len:Nat}:∀{ps:List Nat} {s j:Nat} {p:Nat},Gaps n len s ps->ps[j]? =some p->s<=p/\p+len<=n
 |[],_,_,_,_,h=>by simp at h
 |q::ps,s,0,p,⟨h1,h2,_⟩,h=>by simp at h;subst h;exact⟨h1,h2⟩
 |q::ps,s,j+1,p,⟨h1,h2,h3⟩,h=>by
  have:=lN h3 (by simpa using h);omega
def dL {n len:Nat} {ps:List Nat} {nth:Int} (h:Gaps n len 0 ps):Gaps n len 0 (bP ps nth):=by
 unfold bP;split
 ·exact h
 ·split
  ·rename_i p e;have:=lN h e;exact⟨by omega,this.2,trivial⟩
  ·trivial
/-! ### words put at places -/
def dK (w:List Wd) (D:List (List UInt8)) (a b:Int) (E:Nat):Nat->List Nat->Int->List Wd
 |s,[],_=>w.drop s
 |s,p::ps,m=>(w.take p).drop s++(aL a b D m++dK w D a b E (p+E) ps (m+D.length))
def putL (w:List Wd) (D:List (List UInt8)) (a b:Int) (E:Nat):List Nat->Int->List Wd
 |[],_=>w
 |p::ps,m=>(putL w D a b E ps (m+D.length)).take p++(aL a b D m++(putL w D a b E ps (m+D.length)).drop (p+E))
def j8 (w:List Wd) (E:List (List UInt8)) (a b:Int) (D:Nat):∀(ps:List Nat) (s:Nat) (m:Int),Gaps w.length D s ps->putL w E a b D ps m=w.take s++dK w E a b D s ps m
 |[],s,m,_=>by rw[putL,dK,take_append_drop]
 |p::ps,s,m,⟨h1,h2,h3⟩=>by
  rw[putL,j8 w E a b D ps (p+D) _ h3,dK]
  have F:(w.take (p+D)).length=p+D:=by rw[length_take];omega
  rw[take_append_of_le_length (by omega),drop_left' F,take_take,Nat.min_eq_left (by omega)]
  have:w.take p=w.take s++(w.take p).drop s:=by
   conv=>lhs;rw[←take_append_drop s (w.take p),take_take,Nat.min_eq_left h1]
  conv=>lhs;rw[this]
  rw[append_assoc]
def kt (w:List Wd) (D:List (List UInt8)) (a b:Int) (E:Nat):∀(ps:List Nat) (s:Nat) (m:Int),Gaps w.length E s ps->s<=w.length->(dK w D a b E s ps m).length+s+ps.length*E=w.length+ps.length*D.length
 |[],s,m,_,hs=>by rw[dK,length_drop];simp;omega
 |p::ps,s,m,⟨h1,h2,h3⟩,hs=>by
  have ih:=kt w D a b E ps (p+E) (m+D.length) h3 (by omega);rw[dK,length_append,length_append,bG,length_drop,length_take,length_cons,Nat.add_mul,Nat.add_mul];omega
def bu (w:List Wd) (x:Itm) (a b:Int):List Wd×Int:=
 if x.kind=3/\x.old=[]then (if 256<(aL a b x.new 0++w).length then ([],6)else (aL a b x.new 0++w,0))
 else if bP (occs w x.old) x.nth=[]then ([],4)
 else if x.kind=3 then (if 256<(dK w x.new a b 0 0 ((bP (occs w x.old) x.nth).map (· +x.old.length)) 0).length then ([],6)else (dK w x.new a b 0 0 ((bP (occs w x.old) x.nth).map (· +x.old.length)) 0,0))
 else (if 256<(dK w x.new a b x.old.length 0 (bP (occs w x.old) x.nth) 0).length then ([],6)else (dK w x.new a b x.old.length 0 (bP (occs w x.old) x.nth) 0,0))
def gC {n len:Nat}:∀{ps:List Nat} {s:Nat},Gaps n len s ps->Gaps n 0 s (ps.map (· +len))
 |[],_,_=>trivial
 |p::ps,s,⟨h1,h2,h3⟩=>⟨(by show s<=p+len;omega),(by show p+len+0<=n;omega),(gC h3).from (by show p+len+0<=p+len;omega)⟩
def cut (p:U->Bool):List U->List U
 |[]=>[]
 |x::l=>if p x then x::cut p l else [x]
def kV {p:U->Bool}:∀{l:List U},l.all p=true->cut p l=l
 |[],_=>rfl
 |x::l,h=>by
  simp only[all_cons,Bool.and_eq_true]at h;rw[cut,if_pos h.1,kV h.2]
def cut_app {p:U->Bool} {l m:List U} (h:l.all p=true):cut p (l++m)=l++cut p m:=by
 induction l with
 |nil=>rfl
 |cons x l ih=>
  simp only[all_cons,Bool.and_eq_true]at h;rw[cons_append,cut,if_pos h.1,ih h.2];rfl
def qy {p:U->Bool} {l m:List U} (h:l.all p=false):cut p (l++m)=cut p l:=by
 induction l with
 |nil=>simp at h
 |cons x l ih=>
  rw[cons_append,cut,cut];split
  ·rename_i D;simp only[all_cons,D,Bool.true_and]at h;rw[ih h]
  ·rfl
def aF (u:U) (us:List U):U.flats (u::us)=u.flat++U.flats us:=by rw[U.flats]
def bH:U.flats []=[]:=by rw[U.flats]
def sS {σ:Store} {p:Nat×AObj}:SubN (σ++[p]) (p::σ):=by
 refine⟨λq I=>?_,λD=>?_⟩
 ·rcases mem_append.1 I with h|h
  ·exact mem_cons_of_mem _ h
  ·simp only[mem_singleton]at h;subst h;simp
 ·rw[aC];simp only[Store.keys,map_cons,nodup_cons,map_nil]at D ⊢;refine nodup_append.2 ⟨D.2,by simp,?_⟩;intro a F b E e;simp only[mem_singleton]at E;subst E e;exact D.1 F
def SubN.left {σ τ:Store}:SubN σ (σ++τ):=by
 refine⟨λq E=>mem_append.2 (.inl E),λD=>?_⟩;rw[aC]at D;exact(nodup_append.1 D).1
def RET.mk {x:AV} {R:AV->Store->Prop} {σ σ':Store} (D:SubN σ' σ) (h:R x σ'):RET x σ R:=⟨x,σ',rW _,D,h⟩
def ns {u k x:U} (D:k∈u.kids) (E:x∈k.flat):x∈u.flat:=sa D E
section
variable (G:Glob)
def f306 (f:Value) (p:U->Bool) (N:Nat) (St:List U->Store->Prop) (hN:N<1000000):
  ∀(u:U),u.Tame->(∀x∈u.flat,∀pre σ,St pre σ->pre.length<N->du G Tryz.prog f [.agg x.cs] σ (λr σ'=>r= .bool (p x)/\St (pre++[x]) σ'))->
   ∀pre σ,St pre σ->pre.length+u.flat.length<=N->aj G Tryz.prog 306 [.agg u.cs,.sc f] σ (λr σ'=>r= .bool (u.flat.all p)/\St (pre++cut p u.flat) σ'):=by
 refine U.ind λu ih ht hf pre σ aa al=>?_
 have ah:=ht.kids
 have D:=u.flat_eq
 have ad:u.flat.length=1+(U.flats u.kids).length:=by rw[D,length_cons];omega
 refine aj.w c306 ?_
 unfold s306 r306
 (repeat' (simp only[EV,seval]))
 refine bv σ [] (hf u u.flat_self pre σ aa (by omega)) (hU _) (by simpa using SubN.refl _) ?_
 rintro r σ' ⟨rfl,F⟩
 rw[append_nil]
 cases Y:p u
 ·(repeat' (simp only[EV,seval]))
  exact RET.mk (SubN.refl _) ⟨by rw[D,all_cons,Y];rfl,by rw[D,cut,if_neg (by simp[Y])];exact F⟩
 ·(repeat' (first|simp only[EV,seval,E.yes,E.le0,E.lt',E.get,E.row,hw]|simp only[EV,seval,hn]|simp only[EV,seval]|(with_reducible intro Z M;(try(have O:=M;simp only[EVK]at O;(have an:=O))))|(refine ap (ι:=Store×List U) u.kids (λi r c=>St c.2 c.1/\pre++cut p u.flat=c.2++cut p (U.flats r)/\u.flat.all p=(U.flats r).all p/\c.2.length+(U.flats r).length<=N) (λi c=>[(1,.sc f),(12,.lst 8 (u.kids.map U.cs)),(13,.i u.kids.length),(14,.i i)]) (λi c=>c.1) (σ',pre++[u]) ⟨F,by rw[D,cut,if_pos Y];simp,by rw[D,all_cons,Y,Bool.true_and],by simp;omega⟩ (dT _ _) (by omega) (λi x r c J E hw=>?_) (λc J hn=>?_))))
  ·obtain⟨o1,V,X,o4⟩:=J;rw[aF]at V X o4;rw[length_append]at o4;refine bv c.1 [(Z,.cells 27 x.cs)] (ih x E.mem (ht.kid E.mem) (λy hy=>hf y (ns E.mem hy)) c.2 c.1 o1 (by omega)).v (hU _) sS ?_;rintro r' ac ⟨rfl,I⟩
   cases T:x.flat.all p
   ·(repeat' (simp only[EV,seval]));exact RET.mk SubN.left ⟨by rw[X,all_append,T];rfl,by rw[V,qy T];exact I⟩
   ·(repeat' (simp only[EV,seval,hw]));rw[kV T]at I;exact ak E (ac,c.2++x.flat) ⟨I,by rw[V,cut_app T,append_assoc],by rw[X,all_append,T,Bool.true_and],by simp;omega⟩ (Weak.sub SubN.left)
  ·obtain⟨o1,V,X,o4⟩:=J;exact RET.mk (SubN.refl _) ⟨by rw[X,bH];rfl,by rw[V,bH,cut,append_nil];exact o1⟩
def lu (f:Value) (p:U->Bool) (u:U) (E:u.Tame) (J:∀x∈u.flat,gg G Tryz.prog f [.agg x.cs] (.bool (p x))):Pure G Tryz.prog 306 [.agg u.cs,.sc f] (.bool (u.flat.all p)):=by
 refine aj.mono (f306 G f p u.flat.length (λ_ σ=>σ=[]) E.2 u E (λx M pre σ D _=>?_) [] [] rfl (by simp)) ?_
 ·subst D;exact J x M
 ·rintro r σ' ⟨F,I⟩;exact⟨F,I⟩
def v_clo {k:Nat} {b:Nat} {args:List AV} {σ:Store} {R:AV->Store->Prop} (h:aj G Tryz.prog k (args++[.p b]) σ R):du G Tryz.prog (.func (.func k) #[] #[.p b]) args σ R:=
 ⟨k,#[],#[.p b],rfl,by simpa[AV.ofValue,AV.ofOne]using h⟩
def f307 (x:U) (b n:Nat) (E:n<1000000):aj G Tryz.prog 307 [.agg x.cs,.p b] [(b,.cells 3 [.i n])] (λr σ'=>r= .bool true/\σ'=[(b,.cells 3 [.i ((n+1:Nat):Int)])]):=by
 have D:IntKind.i64.wrap ((n:Int)+1)=((n+1:Nat):Int):=by rw[av (by omega) (by omega)];omega
 refine aj.w c307 ?_;unfold s307 r307;(repeat' (simp only[EV,seval,D]));exact RET.mk (SubN.refl _) ⟨rfl,rfl⟩
def f210 (u:U) (I:u.Tame):Pure G Tryz.prog 210 [.agg u.cs] (.i u.cnt):=by
 refine Pure.w c210 λR O=>?_;unfold s210 r210;(repeat' (first|simp only[EV,seval]|(with_reducible intro D E;(try(have F:=E;simp only[EVK]at F;(have T:=F))))));refine bv _ [] (f306 G (.func (.func 307) #[] #[.p D]) (λ_=>true) u.flat.length (λpre σ=>σ=[(D,.cells 3 [.i pre.length])]) I.2 u I (λx Y pre σ J X=>?_) [] _ rfl (by simp)).v (hU _) (by simpa using SubN.refl _) ?_
 ·subst J;have V:=I.2;refine v_clo G (aj.mono (f307 G x D pre.length (by omega)) ?_);rintro r σ' ⟨M,N⟩;exact⟨M,by rw[N];simp⟩
 ·rintro r σ' ⟨rfl,rfl⟩;rw[kV (by simp)];(repeat' (simp only[EV,seval]));exact RET.eq O (by simp[U.cnt])
def f308 (x:U) (b:Nat) (g:Option Nat) (rows:List Idd) (v:AV) (V:v= .own g 23 3 (rows.map Idd.cs)\/v= .nil/\g=none/\rows=[]) (T:∀d,g=some d->d≠b) (X:rows.length<1000000):
  aj G Tryz.prog 308 [.agg x.cs,.p b] ((b,.cells 100 [v])::tokS g 23 (rows.length*3))
   (λr σ'=>r= .bool true/\∃D,(∀d,D=some d->d≠b)/\σ'=(b,.cells 100 [.own D 23 3 ((rows++[x.id]).map Idd.cs)])::tokS D 23 ((rows.length+1)*3)):=by
 have key:∀D:Option Nat,(∀d,D=some d->d≠b)->∀σ,σ=(b,AObj.cells 100 [.own D 23 3 (rows.map Idd.cs++[x.id.cs])])::tokS D 23 ((rows.length+1)*3)->RET (.bool true) σ (λr σ'=>r= .bool true/\∃D,(∀d,D=some d->d≠b)/\σ'=(b,.cells 100 [.own D 23 3 ((rows++[x.id]).map Idd.cs)])::tokS D 23 ((rows.length+1)*3)):=by
  rintro D O σ rfl;exact RET.mk (SubN.refl _) ⟨rfl,D,O,by simp⟩
 refine aj.w c308 ?_
 unfold s308 r308
 rcases V with rfl|⟨rfl,rfl,rfl⟩
 ·(repeat' (first|simp only[EV,seval]|(with_reducible intro J E;(try(have F:=E;simp only[EVK]at F;(have N:=F))))|(refine eM (n:=rows.length) (m':=(rows.length+1)*3) [_] (by rfl) (by simpa[Store.keys]using T) (by simp) rfl rfl rfl (by assumption) (by omega) (λM I=>?_))))
  exact key M (by simpa[Store.keys]using I) _ rfl
 ·(repeat' (first|simp only[EV,seval]|(with_reducible intro J E;(try(have F:=E;simp only[EVK]at F;(have N:=F))))|(refine eM (n:=0) (m':=3) [_] (by rfl) (by simp) (by simp) rfl rfl rfl (by assumption) (by omega) (λM I=>?_))))
  exact RET.mk (SubN.refl _) ⟨rfl,M,by simpa[Store.keys]using I,rfl⟩
def f211 (u:U) (J:u.Tame):Pure G Tryz.prog 211 [.agg u.cs] (.lst 3 (u.ids.map Idd.cs)):=by
 refine Pure.w c211 λR Y=>?_;unfold s211 r211;(repeat' (first|simp only[EV,seval]|(with_reducible intro D E;(try(have F:=E;simp only[EVK]at F;(have Z:=F))))));refine bv _ [] (f306 G (.func (.func 308) #[] #[.p D]) (λ_=>true) u.flat.length (λpre σ=>∃v g,(v= .own g 23 3 ((pre.map U.id).map Idd.cs)\/v= .nil/\g=none/\pre.map U.id=[])/\(∀d,g=some d->d≠D)/\σ=(D,.cells 100 [v])::tokS g 23 ((pre.map U.id).length*3)) J.2 u J (λx hx pre σ M hp=>?_) [] _ ⟨.nil,none,.inr ⟨rfl,rfl,rfl⟩,by simp,rfl⟩ (by simp)).v (hU _) (by rw[append_nil];exact SubN.refl _) ?_
 ·have hl:=J.2;obtain⟨v,g,I,N,rfl⟩:=M;refine v_clo G (aj.mono (f308 G x D g _ v I N (by simp;omega)) ?_);rintro r σ' ⟨V,O,X,rfl⟩;exact⟨V,_,O,.inl rfl,X,by simp⟩
 ·rintro r σ' ⟨rfl,v,g,I,N,rfl⟩;rw[kV (by simp)]at I ⊢;simp only[nil_append,append_nil]at I ⊢
  rcases I with rfl|⟨rfl,rfl,T⟩
  ·(repeat' (simp only[EV,seval]));exact Y _ _ (Or.inl (Or.inr ⟨rfl,by simp[U.ids]⟩))
  ·exact absurd T (by rw[U.flat_eq];simp)
end
end Go.Av
