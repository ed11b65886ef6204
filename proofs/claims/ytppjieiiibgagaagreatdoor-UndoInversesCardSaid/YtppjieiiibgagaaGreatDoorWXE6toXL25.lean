/-
  ENACT, 6: a unit moved: the program does what the document says.
-/
import Derived.Test.YtppjieiiibgagaaGreatDoorWXE1toXE5
import Derived.Test.YtppjieiiibgagaaGreatDoorWXL18toXL21
set_option linter.all false
namespace Go.Av
open Go Go.RowKit Go.Proofs List
def iC {l:List U} {k:Nat} (h:k<l.length):(aG l k).length=l.length-1:=by
 unfold aG;rw[length_append,length_take,length_drop];omega
structure Goal (u:U) (t:Idd) (wh:Int) (P:U) (dp k:Nat):Prop where
 mem:P.id∈u.ids
 here:fnd P.id u=P
 deep:(U.way P.id u).length=dp+1
 spot:Go.Av.spot u t wh=some (P.id,k)
 ref:(if besides wh then (parR t u).1 else fnd t u)=P/\(if besides wh then (parR t u).2.1 else (U.way t u).length-1)=dp
 out:∀i,i∈u.ids->t∉(fnd i u).ids->P.id∉(fnd i u).ids
 pos:(wh=0/\k=0)\/(wh=1/\k=P.kids.length)\/((wh=2\/wh=3)/\∃j a y b,P.kids=a++y::b/\y.id=t/\j=a.length/\t∉U.idss a/\k=j+(if wh=2 then 1 else 0))
def g7 {u:U} (M:u.ids.Nodup) {t:Idd} (I:t∈u.ids) {wh:Int} (h0:0<=wh) (h3:wh<=3) (N:¬(besides wh=true/\t=u.id)):∃P dp k,Goal u t wh P dp k:=by
 have D:(wh=0\/wh=1)\/(wh=2\/wh=3):=by omega
 rcases D with D|D
 ·have J:besides wh=false:=decide_eq_false (by omega);have hi:=cr u M I;have hw:=ed I;refine⟨fnd t u,(U.way t u).length-1,if wh=0 then 0 else (fnd t u).kids.length,?_,?_,?_,?_,?_,?_,?_⟩
  ·rw[hi.1];exact I
  ·rw[hi.1]
  ·rw[hi.1];omega
  ·unfold spot;rw[hi.1]
   rcases D with rfl|rfl<;>simp
  ·rw[J];simp
  ·intro i X h;rw[hi.1];exact h
  ·rcases D with rfl|rfl<;>simp
 ·have J:besides wh=true:=decide_eq_true D;have F:u.id≠t:=λe=>N ⟨J,e.symm⟩;obtain⟨p,d,j,T,V,E⟩:=aU M I F;obtain⟨a,k,b,s,Z,Y,hl⟩:=E.split;refine⟨p,d,if wh=2 then j+1 else j,E.mem,E.fnd,E.deep,?_,?_,?_,?_⟩
  ·unfold spot;rw[T]
   rcases D with rfl|rfl<;>simp
  ·rw[J,V];simp
  ·intro i hi h hm;apply h;have O:=(fp u M E.mem hi).2 hm;rw[←fp u M I hi];obtain⟨y,hy,e⟩:=O;exact⟨y,by rw[E.path];exact mem_append.2 (.inl hy),e⟩
  ·refine .inr (.inr ⟨D,j,a,k,b,s.eq,Z,Y,s.left,?_⟩)
   rcases D with rfl|rfl<;>simp
def jV {a b:List U} {y:U} {t:Idd} (D:t∉U.idss a) (E:y.id=t):firstAt (λk=>decide (k.id=t)) (a++y::b)=some a.length:=
 et (eZ D) (decide_eq_true E)
def qF {a b:List U} {y:U} {j:Nat} (h:j<a.length):aG (a++y::b) j=aG a j++y::b:=by
 unfold aG;rw[take_append_of_le_length (by omega),drop_append_of_le_length (by omega),append_assoc]
def pK {a b:List U} {y:U} {j:Nat} (h:a.length<j):aG (a++y::b) j=a++y::aG b (j-a.length-1):=by
 unfold aG;obtain⟨m,rfl⟩:∃m,j=a.length+(m+1):=⟨j-a.length-1,by omega⟩;rw[take_length_add_append,show a.length+(m+1)+1=a.length+(m+2)by omega,drop_length_add_append];simp
def py {t:Idd} {a:List U} {j:Nat} (h:t∉U.idss a):t∉U.idss (aG a j):=by
 unfold aG;rw[pt,mem_append,not_or]
 have E:U.idss a=U.idss (a.take j)++U.idss (a.drop j):=by rw[←pt,take_append_drop]
 have F:U.idss a=U.idss (a.take (j+1))++U.idss (a.drop (j+1)):=by rw[←pt,take_append_drop]
 exact⟨λD=>h (by rw[E];exact mem_append.2 (.inl D)),λD=>h (by rw[F];exact mem_append.2 (.inr D))⟩
def mov_eq (u:U) (T:u.ids.Nodup) (bm:∀y∈u.flat,y.kids.length<=64) (i t:Idd) (hi:i∈u.ids) (ht:t∈u.ids) (ac:i≠u.id) (d:Dd) (h0:0<=d.it.wh) (h3:d.it.wh<=3):movR u i t d=movP u i t d:=by
 obtain⟨own,dO,j,w1,w2,J⟩:=aU T hi (Ne.symm ac);obtain⟨a,x,b,s,hx,hj,hl⟩:=J.split;have ah:fnd i u=x:=aB hl;have d0:x.ids.Nodup:=s.nd;have E:=way_two (t:=t) x d0;rw[hx]at E;have Y:=fL u T ht hi;rw[ah]at Y
 have be:own∈u.flat:=by
  have:=aJ u T J.mem;rw[J.fnd]at this;exact this
 have d1:own.kids.length=a.length+b.length+1:=by rw[s.eq];simp;omega
 have d3:=bm own be;subst hj
 have hW:without i u=U.wth own.id (λy=>{y with kids:=aG y.kids a.length}) u:=by unfold without;rw[w1]
 unfold movR movP eu;simp only[w1,w2,ah,hW,cA];by_cases hu:kw u i t=true
 ·have cw:=Y.1 hu;rw[if_pos (.inr (.inr (.inl (E.1.2 cw)))),if_pos (.inl hu)]
 by_cases I:t=i
 ·subst I;by_cases hb:besides d.it.wh=true
  ·have c1:¬(t=u.id\/besides d.it.wh=true/\t=u.id\/1<(U.way t x).length\/(U.way t x).length=1/\besides d.it.wh=false):=by
    rintro(h|h|h|h)
    ·exact ac h
    ·exact ac h.2
    ·exact(E.1.1 h).1 rfl
    ·rw[hb]at h;cases h.2
   have c2:¬(kw u t t=true\/t=t/\besides d.it.wh=false):=by
    rintro(h|h)
    ·exact hu h
    ·rw[hb]at h;cases h.2
   have hq:own.id∉x.ids:=by
    have:=(rB J.nd).2;rw[s.eq,pt,eH]at this;exact λh=>this (mem_append.2 (.inr (mem_append.2 (.inl h))))
   have D:=jp (t:=own.id) T J s.eq hq
   have aa:fnd own.id (U.wth own.id (λy=>{y with kids:=aG y.kids a.length}) u)={own with kids:=a++b}:=by
    refine aB ?_;rw[D,getLast?_map,J.last,Option.map_some,aZ rfl,s.eq,bc]
   rw[if_neg c1,if_neg c2,if_pos rfl];simp only[hb,if_true,aa,w2];rw[D,length_map,J.deep,s.eq,bc];have V:bB {own with kids:=a++b} (a++b) x=bB own (a++b) x:=rfl;rw[V]
   have N:¬64<=(a++b).length:=by rw[length_append];omega
   have e3:U.wth own.id (λy=>{y with kids:=aH y.kids a.length x}) (U.wth own.id (λy=>{y with kids:=aG y.kids a.length}) u)=u:=by
    rw[kF (f:=λy=>{y with kids:=aG y.kids a.length}) u T J.mem λy e=>e];refine jl u T J.mem ?_;rw[J.fnd];simp only;rw[s.eq,bc,kf,←s.eq]
    cases own;rfl
   rw[e3];split
   ·rfl
   ·simp only[N,false_or,ne_eq,not_true_eq_false,false_and];norm_cast
  ·have aw:besides d.it.wh=false:=by simpa using hb
   rw[if_pos (.inr (.inr (.inr ⟨E.2.2 rfl,aw⟩))),if_pos (.inr ⟨rfl,aw⟩)]
 ·have bk:t∉x.ids:=λh=>hu (Y.2 ⟨I,h⟩);by_cases hr:besides d.it.wh=true/\t=u.id
  ·have hs:spot u t d.it.wh=none:=by
    have hh:d.it.wh=2\/d.it.wh=3:=by simpa[besides]using hr.1
    unfold spot;rw[bT hr.2.symm]
    rcases hh with h|h<;>simp[h]
   rw[if_pos (.inr (.inl hr)),if_neg (by rintro(h|h);exact hu h;exact I h.1),if_neg I,hs];rfl
  ·obtain⟨P,deep,k,O⟩:=g7 T ht h0 h3 hr
   have c1:¬(i=u.id\/besides d.it.wh=true/\t=u.id\/1<(U.way t x).length\/(U.way t x).length=1/\besides d.it.wh=false):=by
    rintro(h|h|h|h)
    ·exact ac h
    ·exact hr h
    ·exact bk (E.1.1 h).2
    ·exact I (E.2.1 h.1)
   have c2:¬(kw u i t=true\/t=i/\besides d.it.wh=false):=by
    rintro(h|h)
    ·exact hu h
    ·exact I h.1
   rw[if_neg c1,if_neg c2,if_neg I,O.spot,O.ref.1,O.ref.2];simp only[Option.map_some,if_neg I]
   have bn:P.id∉x.ids:=by
    have:=O.out i hi;rw[ah]at this;exact this bk
   have D:=jp (t:=P.id) T J s.eq bn;obtain⟨F,hF⟩:∃F:U->U,F=λy=>{y with kids:=aG y.kids a.length}:=⟨_,rfl⟩;rw[←hF]at D ⊢
   have aa:fnd P.id (U.wth own.id F u)=U.wth own.id F P:=by
    refine aB ?_;rw[D,getLast?_map,(cr u T O.mem).2,O.here];rfl
   have bh:U.put {own with kids:=aG own.kids a.length} u=U.wth own.id F u:=by
    have:=fv u T J.mem λl=>aG l a.length;rw[J.fnd]at this;rw[hF];exact this
   rw[bh,aa];have al:(U.wth own.id F P).kind=P.kind:=dg U.kind (λy=>by rw[hF]) (λ_ _=>rfl) P;have hid:(U.wth own.id F P).id=P.id:=dg U.id (λy=>by rw[hF]) (λ_ _=>rfl) P
   have M:∀{β:Type} (key:U->β),(∀y ks,key {y with kids:=ks}=key y)->(U.wth own.id F P).kids.map key=(cA P own a.length).map key:=by
    intro β key hk;unfold cA;by_cases Z:own.id=P.id
    ·have e:P=own:=by rw[←O.here,←Z,J.fnd]
     subst e;rw[if_pos rfl,aZ rfl,hF]
    ·rw[if_neg Z,rR,if_neg (Ne.symm Z)];simp only;exact j2 key (dg key (λy=>by rw[hF];exact hk y _) hk) P.kids
   have cp:bB (U.wth own.id F P) (U.wth own.id F P).kids x=bB P (cA P own a.length) x:=by
    unfold bB;rw[al,rd (M (λy=>(y.kind,y.label)) λ_ _=>rfl)]
   have bd:(U.wth own.id F P).kids.length=(cA P own a.length).length:=by
    have:=congrArg List.length (M U.id λ_ _=>rfl);simpa using this
   have an:(if own.id=P.id then aG P.kids a.length else P.kids)=cA P own a.length:=rfl;rw[an,cp,bd,D,length_map,O.deep];split
   ·rfl
   ·have X:(64<=(cA P own a.length).length\/8<(deep:Int)+1+x.dep)↔(P.id≠own.id/\64<=(cA P own a.length).length\/8<((deep+1:Nat):Int)+x.dep):=by
     have e5:((deep+1:Nat):Int)=(deep:Int)+1:=by omega
     rw[e5];by_cases Z:own.id=P.id
     ·have e:P=own:=by rw[←O.here,←Z,J.fnd]
      subst e
      have:¬64<=(cA P P a.length).length:=by
       unfold cA;rw[if_pos rfl,iC (by omega)];omega
      simp[this]
     ·simp[Ne.symm Z]
    by_cases hc:64<=(cA P own a.length).length\/8<(deep:Int)+1+x.dep
    ·rw[if_pos hc,if_pos (X.1 hc)]
    ·rw[if_neg hc,if_neg λh=>hc (X.2 h)]
     have bo:atR (U.wth own.id F P).kids t d.it.wh=if P.id=own.id/\a.length<k then k-1 else k:=by
      have bb:firstAt (λk=>decide (k.id=t)) (U.wth own.id F P).kids=firstAt (λk=>decide (k.id=t)) (cA P own a.length):=qy (M U.id λ_ _=>rfl) t;unfold atR;rw[bd,bb];unfold cA;by_cases Z:own.id=P.id
      ·have e:P=own:=by rw[←O.here,←Z,J.fnd]
       subst e;rw[if_pos rfl]
       rcases O.pos with⟨V,N⟩|⟨V,N⟩|⟨V,j',a',y,b',N,e3,e4,e5,e6⟩
       ·simp[V,N]
       ·rw[V,N,iC (by omega)];simp only[show ¬((1:Int)=0)by decide,if_false,if_true,true_and];rw[if_pos (by omega)]
       ·have n0:¬d.it.wh=0:=by omega
        have n1:¬d.it.wh=1:=by omega
        rw[if_neg n0,if_neg n1,N];subst e4
        have d2:a'.length≠a.length:=by
         intro e;have h1:=s.eq;rw[N]at h1;have:=(append_inj h1 e).2
         injection this with this
         exact I (e3.symm.trans ((congrArg U.id this).trans hx))
        subst e6;obtain⟨w,hw⟩:∃w:Nat,(if d.it.wh=2 then 1 else 0)=w:=⟨_,rfl⟩
        have dc:w<=1:=by rw[←hw];split<;>omega
        rw[hw]
        have bs:∃m,firstAt (λk=>decide (k.id=t)) (aG (a'++y::b') a.length)=some m/\m=if a.length<a'.length then a'.length-1 else a'.length:=by
         by_cases ad:a.length<a'.length
         ·rw[qF ad,jV (py e5) e3,iC ad,if_pos ad];exact⟨_,rfl,rfl⟩
         ·rw[pK (by omega),jV e5 e3,if_neg ad];exact⟨_,rfl,rfl⟩
        obtain⟨m,hm,bx⟩:=bs;rw[hm];simp only[Option.getD_some,true_and];rw[bx];split<;>split<;>omega
      ·rw[if_neg Z];have cm:¬(P.id=own.id/\a.length<k):=λh=>Z h.1.symm;rw[if_neg cm]
       rcases O.pos with⟨V,N⟩|⟨V,N⟩|⟨V,j',a',y,b',N,e3,e4,e5,e6⟩
       ·simp[V,N]
       ·simp[V,N]
       ·have n0:¬d.it.wh=0:=by omega
        have n1:¬d.it.wh=1:=by omega
        rw[if_neg n0,if_neg n1,N,jV e5 e3,e6,e4];rfl
     rw[bo]
     have ch:(U.wth own.id F u).ids.Nodup:=by
      refine T.sublist (wth_sub u T J.mem ?_);rw[J.fnd,hF];simp only;rw[o5,o5 own,s.eq,bc,pt,pt,eH];exact((List.Sublist.refl _).append (sublist_append_right _ _)).cons_cons _
     have bw:P.id∈(U.wth own.id F u).ids:=by
      refine bQ.1 ?_;rw[D];have:=bQ.2 O.mem;simpa using this
     have:=fv (U.wth own.id F u) ch bw λl=>aH l (if P.id=own.id/\a.length<k then k-1 else k) x;rw[aa]at this;rw[this]
def bz (a b:Int):∀(l:List (List UInt8)) (m:Int),(aR a b l m).length=l.length
 |[],_=>rfl
 |s::l,m=>by rw[aR,length_cons,bz a b l,length_cons]
def nq (a b:Int):∀(l r:List (List UInt8)) (m:Int),aR a b (l++r) m=aR a b l m++aR a b r (m+l.length)
 |[],r,m=>by simp[aR]
 |s::l,r,m=>by
  rw[cons_append,aR,nq a b l r,aR,cons_append];simp only[length_cons];rw[show m+1+(l.length:Int)=m+((l.length+1:Nat):Int)by omega]
/-! ### where a row occurs -/
def occL (row:List (List UInt8)):Nat->Nat->List (List UInt8)->List Nat
 |_,_,[]=>[]
 |k+1,i,_::l=>occL row k (i+1) l
 |0,i,x::l=>if (x::l).take row.length=row then i::occL row (row.length-1) (i+1) l else occL row 0 (i+1) l
def nb (row:List (List UInt8)):∀(k i:Nat) (l:List (List UInt8)),occL row k i l=occL row 0 (i+k) (l.drop k)
 |0,i,l=>by simp
 |k+1,i,[]=>by simp[occL]
 |k+1,i,x::l=>by rw[occL,nb row k (i+1) l,drop_succ_cons,show i+1+k=i+(k+1)by omega]
def pw {row:List (List UInt8)} {i:Nat} {l:List (List UInt8)} (E:row≠[]) (h:l.take row.length=row):occL row 0 i l=i::occL row 0 (i+row.length) (l.drop row.length):=by
 cases l with
 |nil=>rw[take_nil]at h;exact absurd h.symm E
 |cons x l=>
  have F:1<=row.length:=by cases row<;>simp_all
  rw[occL,if_pos h,nb];obtain⟨n,D⟩:∃n,row.length=n+1:=⟨row.length-1,by omega⟩;rw[D,drop_succ_cons,show i+1+(n+1-1)=i+(n+1)by omega];rfl
def nw {row:List (List UInt8)} {i:Nat} {l:List (List UInt8)} (h:l.take row.length≠row):occL row 0 i l=occL row 0 (i+1) (l.drop 1):=by
 cases l with
 |nil=>simp[occL]
 |cons x l=>rw[occL,if_neg h];rfl
def mA {row:List (List UInt8)}:∀{l:List (List UInt8)} {i:Nat},l.length<row.length->occL row 0 i l=[]
 |[],_,_=>by rw[occL]
 |x::l,i,h=>by
  rw[occL,if_neg,mA (by simp at h;omega)];intro e;have:=congrArg List.length e;simp at this h;omega
def Gaps (n len:Nat):Nat->List Nat->Prop
 |_,[]=>True
 |s,p::ps=>s<=p/\p+len<=n/\Gaps n len (p+len) ps
def Gaps.from {n len:Nat}:∀{ps:List Nat} {s D:Nat},D<=s->Gaps n len s ps->Gaps n len D ps
 |[],_,_,_,_=>trivial
 |p::ps,s,D,h,⟨h1,h2,h3⟩=>⟨by omega,h2,h3⟩
def ic {row:List (List UInt8)} (E:row≠[]):∀(k i:Nat) (l:List (List UInt8)),k<=l.length->Gaps (i+l.length) row.length (i+k) (occL row k i l)
 |_,_,[],_=>by rw[occL];trivial
 |k+1,i,x::l,h=>by
  rw[occL];have:=ic E k (i+1) l (by simpa using h);rw[show i+(x::l).length=i+1+l.length by simp;omega,show i+(k+1)=i+1+k by omega];exact this
 |0,i,x::l,_=>by
  rw[occL]
  have F:1<=row.length:=by cases row<;>simp_all
  split
  ·rename_i e
   have D:row.length<=(x::l).length:=by
    have:=congrArg List.length e;rw[length_take]at this;omega
   have:=ic E (row.length-1) (i+1) l (by simp at D;omega);refine⟨by omega,by omega,?_⟩;rw[show i+(x::l).length=i+1+l.length by simp;omega,show i+row.length=i+1+(row.length-1)by omega];exact this
  ·have:=ic E 0 (i+1) l (by omega);rw[show i+(x::l).length=i+1+l.length by simp;omega];exact this.from (by omega)
def occs (w:List Wd) (row:List (List UInt8)):List Nat:=occL row 0 0 (w.map Wd.text)
def fW {w:List Wd} {row:List (List UInt8)} (D:row≠[]):Gaps w.length row.length 0 (occs w row):=by
 have:=ic D 0 0 (w.map Wd.text) (by omega);simpa[occs]using this
def bG (ps:List Nat) (nth:Int):List Nat:=if nth=0 then ps else match ps[(nth-1).toNat]? with
 |some p=>[p]
 |none=>[]
def k9 {n len:Nat}:∀{ps:List Nat} {s j:Nat} {p:Nat},Gaps n len s ps->ps[j]? =some p->s<=p/\p+len<=n
 |[],_,_,_,_,h=>by simp at h
 |q::ps,s,0,p,⟨h1,h2,_⟩,h=>by simp at h;subst h;exact⟨h1,h2⟩
 |q::ps,s,j+1,p,⟨h1,h2,h3⟩,h=>by
  have:=k9 h3 (by simpa using h);omega
def du {n len:Nat} {ps:List Nat} {nth:Int} (h:Gaps n len 0 ps):Gaps n len 0 (bG ps nth):=by
 unfold bG;split
 ·exact h
 ·split
  ·rename_i p e;have:=k9 h e;exact⟨by omega,this.2,trivial⟩
  ·trivial
/-! ### words put at places -/
def dx (w:List Wd) (D:List (List UInt8)) (a b:Int) (E:Nat):Nat->List Nat->Int->List Wd
 |s,[],_=>w.drop s
 |s,p::ps,m=>(w.take p).drop s++(aR a b D m++dx w D a b E (p+E) ps (m+D.length))
def putL (w:List Wd) (D:List (List UInt8)) (a b:Int) (E:Nat):List Nat->Int->List Wd
 |[],_=>w
 |p::ps,m=>(putL w D a b E ps (m+D.length)).take p++(aR a b D m++(putL w D a b E ps (m+D.length)).drop (p+E))
def j0 (w:List Wd) (E:List (List UInt8)) (a b:Int) (D:Nat):∀(ps:List Nat) (s:Nat) (m:Int),Gaps w.length D s ps->putL w E a b D ps m=w.take s++dx w E a b D s ps m
 |[],s,m,_=>by rw[putL,dx,take_append_drop]
 |p::ps,s,m,⟨h1,h2,h3⟩=>by
  rw[putL,j0 w E a b D ps (p+D) _ h3,dx]
  have F:(w.take (p+D)).length=p+D:=by rw[length_take];omega
  rw[take_append_of_le_length (by omega),drop_left' F,take_take,Nat.min_eq_left (by omega)]
  have:w.take p=w.take s++(w.take p).drop s:=by
   conv=>lhs;rw[←take_append_drop s (w.take p),take_take,Nat.min_eq_left h1]
  conv=>lhs;rw[this]
  rw[append_assoc]
def jX (w:List Wd) (D:List (List UInt8)) (a b:Int) (E:Nat):∀(ps:List Nat) (s:Nat) (m:Int),Gaps w.length E s ps->s<=w.length->(dx w D a b E s ps m).length+s+ps.length*E=w.length+ps.length*D.length
 |[],s,m,_,hs=>by rw[dx,length_drop];simp;omega
 |p::ps,s,m,⟨h1,h2,h3⟩,hs=>by
  have ih:=jX w D a b E ps (p+E) (m+D.length) h3 (by omega);rw[dx,length_append,length_append,bz,length_drop,length_take,length_cons,Nat.add_mul,Nat.add_mul];omega
def bj (w:List Wd) (x:Itm) (a b:Int):List Wd×Int:=
 if x.kind=3/\x.old=[]then (if 256<(aR a b x.new 0++w).length then ([],6)else (aR a b x.new 0++w,0))
 else if bG (occs w x.old) x.nth=[]then ([],4)
 else if x.kind=3 then (if 256<(dx w x.new a b 0 0 ((bG (occs w x.old) x.nth).map (· +x.old.length)) 0).length then ([],6)else (dx w x.new a b 0 0 ((bG (occs w x.old) x.nth).map (· +x.old.length)) 0,0))
 else (if 256<(dx w x.new a b x.old.length 0 (bG (occs w x.old) x.nth) 0).length then ([],6)else (dx w x.new a b x.old.length 0 (bG (occs w x.old) x.nth) 0,0))
def gc {n len:Nat}:∀{ps:List Nat} {s:Nat},Gaps n len s ps->Gaps n 0 s (ps.map (· +len))
 |[],_,_=>trivial
 |p::ps,s,⟨h1,h2,h3⟩=>⟨(by show s<=p+len;omega),(by show p+len+0<=n;omega),(gc h3).from (by show p+len+0<=p+len;omega)⟩
def Itm.ext' {a b:Itm} (O:a.kind=b.kind) (T:a.at_=b.at_) (V:a.to_=b.to_) (X:a.wh=b.wh) (Y:a.nth=b.nth) (Z:a.unit=b.unit) (h7:a.old=b.old) (h8:a.new=b.new) (h9:a.label=b.label) (D:a.for_=b.for_)
  (E:a.start=b.start) (F:a.act=b.act) (I:a.item=b.item) (J:a.day=b.day) (M:a.event=b.event) (N:a.by_=b.by_):a=b:=by
 cases a;cases b;simp_all
def sta_eq {a b:Sta} (h:(decide (a.kind=b.kind)&&(decide (a.day=b.day)&&(decide (a.event=b.event)&&true)))=true):a=b:=by
 cases a;cases b;simp_all
def sta_ne {a b:Sta} (h:(decide (a.kind=b.kind)&&(decide (a.day=b.day)&&(decide (a.event=b.event)&&true)))=false):a≠b:=by
 rintro rfl;simp at h
section
variable (G:Glob)
set_option maxHeartbeats 4000000 in
def f47:∀(a:Itm),a.fit->∀b:Itm,Pure G Tryz.prog 47 [.agg a.cs,.agg b.cs] (.bool (decide (a=b))):=by
 refine Itm.ind λa ih F b=>?_;obtain⟨Z,h2,T,h4,h5,h6,V⟩:=(sg a).1 F;refine Pure.w c47 λR J=>?_;unfold s47 r47;(repeat' (first|(with_reducible (first|refine ae (λh=>?_) λh=>?_|refine ai (λh=>?_) λh=>?_)<;>(try simp only[DZ]at h))|(with_reducible first|refine AI (by omega) ?_|refine ab (f103 G _ _ (by omega)) ?_|refine ab (f35 G a.unit T b.unit) ?_|refine ab (f104 G _ _ (by omega)) ?_|refine ab (ih x E.mem (V x E.mem) y) ?_)|simp only[EV,seval,o6,E.yes,E.le0,E.lt',E.get,E.row,Y,O.row,O.lt']|simp only[EV,seval,o6,X]|simp only[EV,seval,o6]|(with_reducible first|refine af ?_ ?_|refine ag ?_)|(refine ak E () ?_ (a0 _ _))|(refine ap a.by_ (λi r (c:Unit)=>a.by_.length=b.by_.length/\decide (a.by_=b.by_)=decide (r=b.by_.drop i)) (λi c=>[(2,.ref a.cs),(3,.ref b.cs),(5,.i i)]) (λ_ _=>[]) () ⟨by omega,by simp⟩ (a0 _ _) (by omega) (λi x r c D E Y=>?_) (λc D X=>?_)<;>(try(obtain⟨y,r2,O,I,D⟩:=cM D E)))))
 all_goals first
  |(refine RET.eq J (congrArg AV.bool (Eq.symm (decide_eq_false ?_)));rintro rfl;exact absurd rfl h)
  |(refine RET.eq J (congrArg AV.bool (Eq.symm (decide_eq_false ?_)));rintro rfl;simp at h;done)
  |skip
 all_goals first
  |(have M:decide (a.by_=b.by_)=false:=by rw[D];simp[h]
    refine RET.eq J (congrArg AV.bool (Eq.symm (decide_eq_false ?_)));rintro rfl;simp at M;done)
  |(rw[D,I,h];simp;done)
  |(rw[D,I];simp[h];done)
  |(have N:a.by_=b.by_:=by have:=D.2;rw[D.1,drop_length]at this;simpa using this
    refine RET.eq J (congrArg AV.bool (Eq.symm (decide_eq_true ?_)))
    exact Itm.ext' (Classical.not_not.1 (by assumption)) (by assumption) (by assumption) (Classical.not_not.1 (by assumption)) (Classical.not_not.1 (by assumption)) (by assumption) (by assumption) (by assumption) (Classical.not_not.1 (by assumption)) (Classical.not_not.1 (by assumption))
     (sta_eq (by assumption)) (Classical.not_not.1 (by assumption)) (Classical.not_not.1 (by assumption)) (Classical.not_not.1 (by assumption)) (Classical.not_not.1 (by assumption)) N)
  |trace_state
end
def Itm.just (x:Itm):Itm:=
 if x.kind=0 then {iz with wh:=x.wh,unit:=x.unit}else if x.kind=2\/x.kind=3 then {iz with old:=x.old,new:=x.new,nth:=x.nth}else if x.kind=4 then {iz with new:=x.new}else
 if x.kind=5 then {iz with label:=x.label}else if x.kind=6 then {iz with to_:=x.to_,wh:=x.wh}else if x.kind=7\/x.kind=8\/x.kind=9 then {iz with act:=x.act,item:=x.item,day:=x.day}else
 if x.kind=10 then {iz with event:=x.event,day:=x.day}else if x.kind=11 then {iz with act:=x.act,item:=x.item,by_:=x.by_}else iz
def Itm.told (x:Itm):Itm:=if x.kind<=6 then {x.just with kind:=x.kind,at_:=x.at_,for_:=x.for_,start:=x.start}else {x.just with kind:=x.kind}
section
variable (G:Glob)
set_option maxHeartbeats 4000000 in
def f72 (x:Itm) (O:0<=x.kind) (M:x.kind<=11):Pure G Tryz.prog 72 [.agg x.cs] (.agg x.told.cs):=by
 refine Pure.w c72 λR N=>?_;unfold s72 r72
 have D:x.kind=0\/x.kind=1\/x.kind=2\/x.kind=3\/x.kind=4\/x.kind=5\/x.kind=6\/x.kind=7\/x.kind=8\/x.kind=9\/x.kind=10\/x.kind=11:=by omega
 rcases D with D|D|D|D|D|D|D|D|D|D|D|D
 all_goals
  (repeat' (first|simp only[EV,seval,D,E]|simp only[EV,seval,D]|(with_reducible intro J I;(try(have F:=I;simp only[EVK]at F;first|(have E:=AI F E)|(have E:=F))))))
  refine N _ _ (Or.inr ?_)
  rw[dT]
  simp[aY,aT,Itm.told,Itm.just,iz,D]
end
structure Itm.Short1 (x:Itm):Prop where
 fit:x.fit
 unit:x.unit.Short
 at_:x.at_.length<1000000
 to_:x.to_.length<1000000
 atl:∀s∈x.at_,s.label.length<1000000000000000000
 tol:∀s∈x.to_,s.label.length<1000000000000000000
 old:x.old.length<1000000
 new:x.new.length<1000000
 label:x.label.length<1000000000000000000
 for_:x.for_.length<1000000000000000000
 start:x.start.event.length<1000000000000000000
 event:x.event.length<1000000000000000000
mutual
def Itm.Shorts:Itm->Prop
 |⟨k,a,t,wh,n,u,o,w,l,f,s,ac,it,d,e,b⟩=>Itm.Short1 ⟨k,a,t,wh,n,u,o,w,l,f,s,ac,it,d,e,b⟩/\Itm.Shortss b
def Itm.Shortss:List Itm->Prop
 |[]=>True
 |x::l=>Itm.Shorts x/\Itm.Shortss l
end
def sI:∀{us:List Itm},Itm.Shortss us↔∀k∈us,k.Shorts
 |[]=>by simp[Itm.Shortss]
 |u::us=>by simp[Itm.Shortss,sI (us:=us)]
def rI (x:Itm):x.Shorts↔x.Short1/\∀k∈x.by_,k.Shorts:=by
 cases x
 rw[Itm.Shorts,sI]
def de (l:List (List UInt8)) (n:Int):Bool:=dN l&&decide (n<=(l.length:Int))
def Itm.own (x:Itm) (y:Bool):Bool:=
 if x.kind=0 then inR x.wh 0 3&&(gj x.unit&&(decide (x.unit.kind≠0)&&decide ((dk x.unit).2=0)))
 else if x.kind=2 then de x.old 1&&(de x.new 0&&inR x.nth 0 256)
 else if x.kind=3 then de x.old 0&&(de x.new 1&&(inR x.nth 0 256&&(decide (0<(x.old.length:Int))||decide (x.nth=0))))
 else if x.kind=4 then de x.new 0
 else if x.kind=5 then bA x.label
 else if x.kind=6 then inR x.wh 0 3&&cI x.to_
 else if x.kind=7\/x.kind=8\/x.kind=9 then inR x.act 1 1048576&&(inR x.item (-1) 31&&inR x.day 0 1048576)
 else if x.kind=10 then d8 x.event&&inR x.day 0 1048576
 else if x.kind=11 then inR x.act 1 1048576&&(inR x.item 0 31&&y)
 else true
def Itm.pre (x:Itm):Bool:=(inR x.kind 0 11&&decide (x=x.told))&&(decide (6<x.kind)||(cI x.at_&&((decide (x.for_=[])||d8 x.for_)&&jN x.start)))
mutual
def Itm.may:Itm->Bool
 |⟨k,a,t,wh,n,u,o,w,l,f,s,ac,it,d,e,b⟩=>Itm.pre ⟨k,a,t,wh,n,u,o,w,l,f,s,ac,it,d,e,b⟩&&Itm.own ⟨k,a,t,wh,n,u,o,w,l,f,s,ac,it,d,e,b⟩ (Itm.mayOne b)
def Itm.mayOne:List Itm->Bool
 |[]=>false
 |x::l=>(l.isEmpty&&inR x.kind 0 6)&&Itm.may x
end
def rE (x:Itm):x.may=(x.pre&&x.own (Itm.mayOne x.by_)):=by cases x;rw[Itm.may]
def sd (x:Itm) (l:List Itm):Itm.mayOne (x::l)=((l.isEmpty&&inR x.kind 0 6)&&x.may):=by rw[Itm.mayOne]
section
variable (G:Glob)
set_option maxHeartbeats 8000000 in
def f30:∀(x:Itm),x.Shorts->Pure G Tryz.prog 30 [.agg x.cs] (.bool x.may):=by
 refine Itm.ind λx ih hs=>?_;obtain⟨q,T⟩:=(rI x).1 hs;refine Pure.w c30 λR E=>?_;unfold s30 r30;rw[rE]at E;have F:=λn lo hi=>f71 G n lo hi;by_cases D:0<=x.kind/\x.kind<=11
 ·have O:=f72 G x D.1 D.2;have N:=f47 G x q.fit x.told
  have V:x.kind=0\/x.kind=1\/x.kind=2\/x.kind=3\/x.kind=4\/x.kind=5\/x.kind=6\/x.kind=7\/x.kind=8\/x.kind=9\/x.kind=10\/x.kind=11:=by omega
  unfold Itm.pre at E;generalize decide (x=x.told)=e at*;have J:∀l:List (List UInt8),l.length<1000000->∀n,Pure G Tryz.prog 78 [.lst 1 (l.map srow),.i n] (.bool (de l n)):=λl hl n=>f78 G l n (by omega);have Z:=J _ q.old;have Y:=J _ q.new
  rcases V with D|D|D|D|D|D|D|D|D|D|D|D
  all_goals (try (have X : x.kind ≠ 11 := by omega
                  (repeat' (first | (with_reducible (first | refine ae (fun h => ?_) (fun h => ?_) | refine ai (fun h => ?_) (fun h => ?_)) <;> (try simp only [Da, Db, Dc, Dw, De, Df, Dg, Dh] at h)) | (with_reducible refine ab (F _ _ _) ?_) | (with_reducible refine ab O ?_) | (with_reducible refine ab N ?_) | (with_reducible refine ab (Z _) ?_) | (with_reducible refine ab (Y _) ?_) | (with_reducible refine ab (f73 G _ q.at_ q.atl) ?_) | (with_reducible refine ab (f73 G _ q.to_ q.tol) ?_) | (with_reducible refine ab (f74 G _) ?_) | (with_reducible refine ab (f75 G _) ?_) | (with_reducible refine ab (f76 G x.unit q.unit) ?_) | (with_reducible refine ab (f77 G x.unit q.unit) ?_) | (with_reducible refine ab (f79 G _ q.label) ?_) | simp only [EV, seval, D, o6, inR]))
                  all_goals (try (first
                    | exact absurd h (by decide)
                    | (refine RET.eq E (congrArg AV.bool ?_); simp [Itm.own, inR, *]; done)
                    | (have hf : x.for_ = [] := Classical.not_not.1 (by assumption)
                       refine RET.eq E (congrArg AV.bool ?_); simp [Itm.own, inR, hf, *]; done)
                    | (refine RET.eq E (congrArg AV.bool ?_); simp_all [Itm.own, inR]; done)
                    | (refine RET.eq E (congrArg AV.bool ?_); simp_all [Itm.own, inR]; omega)))))
  have aa:=E;rw[show x.own (Itm.mayOne x.by_)=(inR x.act 1 1048576&&(inR x.item 0 31&&Itm.mayOne x.by_))by unfold Itm.own;simp[D]]at E
  rcases I:x.by_ with _|⟨y,_|⟨z,l⟩⟩
  ·rw[I,Itm.mayOne]at E;(repeat' (first|(with_reducible (first|refine ae (λh=>?_) λh=>?_|refine ai (λh=>?_) λh=>?_)<;>(try simp only[DZ]at h))|(with_reducible first|refine ab (F _ _ _) ?_|refine ab O ?_|refine ab N ?_)|simp only[EV,seval,D,o6,inR,I,map_nil,length_nil]))
   all_goals(refine RET.eq E (congrArg AV.bool ?_);simp[inR, *];done)
  ·rw[I,sd]at E;have hy:=ih y (by rw[I];simp) (T y (by rw[I];simp));(repeat' (first|(with_reducible (first|refine ae (λh=>?_) λh=>?_|refine ai (λh=>?_) λh=>?_)<;>(try simp only[DZ]at h))|(with_reducible first|refine ab (F _ _ _) ?_|refine ab O ?_|refine ab N ?_|refine ab hy ?_)|simp only[EV,seval,D,o6,I,map_cons,map_nil,length_nil,length_cons,getD_cons_zero]))
   all_goals(try(refine RET.eq E (congrArg AV.bool ?_);simp_all[inR];done))
   all_goals(refine RET.eq E (congrArg AV.bool ?_);simp[*];done)
  ·rw[I,sd]at E;(repeat' (first|(with_reducible (first|refine ae (λh=>?_) λh=>?_|refine ai (λh=>?_) λh=>?_)<;>(try simp only[DZ]at h))|(with_reducible first|refine AI (by omega) ?_|refine ab (F _ _ _) ?_|refine ab O ?_|refine ab N ?_)|simp only[EV,seval,D,o6,I,map_cons,length_cons]|(exfalso;omega)))
   all_goals(try(refine RET.eq E (congrArg AV.bool ?_);simp_all[inR];done))
   all_goals trace_state
 ·have M:inR x.kind 0 11=false:=by unfold inR;simp;omega
  unfold Itm.pre at E;rw[M]at E;(repeat' (first|(with_reducible refine ab (F _ _ _) ?_)|simp only[EV,seval,M]))
  all_goals(refine RET.eq E (congrArg AV.bool ?_);simp;done)
end
end Go.Av
