/-
  OPENING, Q: what a handed patch stands for, with the bounds that its text wants.
-/
import Derived.Test.YtnoakpkjccigoaaGreatDoorVXOpP
import Derived.Test.YtnoakpkjccigoaaGreatDoorVXV5
import Derived.Test.YtnoakpkjccigoaaGreatDoorVXOpenGtoXCS
import Derived.Test.YtnoakpkjccigoaaGreatDoorVXAv24toXAv26
import Derived.Test.YtnoakpkjccigoaaGreatDoorProg
import Derived.Test.YtnoakpkjccigoaaGreatDoorVXAv16toXAv23
import Derived.Test.YtnoakpkjccigoaaGreatDoorVShelf
import Derived.Test.YtnoakpkjccigoaaGreatDoorVXE12toXL29
import Derived.RegionTactic
import Derived.RegionCalls
import Derived.WalkMore
import Derived.Deep.RegionWith
namespace Go.Av
open Go Go.RowKit Go.Proofs List
set_option linter.unusedSimpArgs false
set_option linter.unusedVariables false
theorem sg {n:Nat} {a:List AV} (h:Shp Tryz.prog reachBytes n 33 a):∃w:Wd,a=w.cs/\w.text.length<=reachBytes:=by
 obtain⟨m,rfl,g⟩:=cD Tryz.underlying33 h
 clear h
 simp only[toL,ShpF]at g
 obtain⟨N,T,rfl,D,O,V,rfl,E,rfl⟩:=g
 obtain⟨s,F,rfl⟩:=eN Tryz.underlying9 D
 obtain⟨I,J,M,rfl⟩:=rN E
 exact⟨⟨s,I,J,M⟩,rfl,F⟩
theorem sd {n:Nat} {a:List AV} (h:Shp Tryz.prog reachBytes n 29 a):∃p:Pt,a=p.cs/\p.unit.fit/\p.label.length<=reachBytes/\(p.words.length<1000000000000000000/\∀x∈p.words,x.text.length<=reachBytes):=by
 obtain⟨m,rfl,g⟩:=cD Tryz.underlying29 h
 clear h
 simp only[toL,ShpF]at g
 obtain⟨Z,b1,rfl,D,a2,b2,rfl,E,a3,b3,rfl,F,a4,b4,rfl,I,a5,b5,rfl,J,a6,b6,rfl,M,a7,b7,rfl,N,rfl⟩:=g
 obtain⟨k,rfl⟩:=bL Tryz.underlying3 D
 obtain⟨t,rfl⟩:=bL Tryz.underlying3 E
 obtain⟨i,rfl⟩:=qB F
 obtain⟨q,rfl⟩:=qB I
 obtain⟨u,rfl,V⟩:=ls _ _ J
 obtain⟨s,T,rfl⟩:=eN Tryz.underlying9 M
 obtain⟨l,rfl,X,Y⟩:=fg (f:=Wd.cs) (q:=λw=>w.text.length<=reachBytes) (sz:=4) Tryz.underlying24 (by kernel_rfl) (λm _ r O=>sg O) N
 refine⟨⟨k,t,i,q,u,s,l⟩,?_,V,T,dF X,Y⟩
 rw[U.cs_eq]
 rfl
theorem sh:Tryz.prog.cellTypes Tryz.prog.depth 29=some ((List.replicate 12 3)++[9,24,24,25,9,24]):=by kernel_rfl
set_option maxRecDepth 100000 in
theorem small_of {W:World} {D:Nat} {p:Pt} {v:Value} (N:Value.okWide Tryz.prog W .any D 29 v) (E:Rep [] W (.agg p.cs) v):p.Small:=by
 unfold Value.okWide at N
 rw[Tryz.underlying29]at N
 obtain⟨cs,rfl,_,ts,F,_,T⟩:=N
 rw[sh]at F
 injection F with F
 subst F
 simp only[Rep]at E
 obtain⟨vs,e,_,E⟩:=E
 injection e with e
 subst e
 have key:∀(i:Nat) (n:Int),i<12->p.cs[i]? =some (.int .i64 n)->inI n:=by
  intro i n hi hp
  have Z:=E.length
  rw[Pt.cs_len]at Z
  have M:=E.get i (by rw[Pt.cs_len];omega) (by omega)
  have O:p.cs[i]'(by rw[Pt.cs_len];omega)= .int .i64 n:=Option.some.inj ((getElem?_eq_getElem _).symm.trans hp)
  rw[O]at M
  simp only[Rep]at M
  obtain⟨u,V,I⟩:=T i (.int .i64 n) (by rw[←M,←Array.getElem?_toList,getElem?_eq_getElem (by omega)])
  have J:((List.replicate 12 3)++[9,24,24,25,9,24])[i % 18]? =some u:=V
  rw[Nat.mod_eq_of_lt (by omega),getElem?_append_left (by simpa using hi),getElem?_replicate,if_pos hi]at J
  injection J with J
  subst J
  unfold Cell.okWide at I
  rw[Tryz.underlying3]at I
  simp only[Cell.ok,Tryz.underlying3]at I
  obtain⟨_,X,Y⟩:=I
  exact⟨X,Y⟩
 exact⟨key 1 _ (by decide) rfl,⟨key 2 _ (by decide) rfl,key 3 _ (by decide) rfl,key 4 _ (by decide) rfl⟩,⟨key 5 _ (by decide) rfl,key 6 _ (by decide) rfl,key 7 _ (by decide) rfl⟩⟩
end Go.Av
namespace Go.Av
open Go List
set_option linter.unusedSimpArgs false
set_option linter.unusedVariables false
def r52:RL:=[(4,none),(5,none)]
def s52:SCode:=qR [Qi 4 0,qa 5 (.mov (.c (.sc .nilIface)))] [0,1] (qR [Qm 6 0,Q1 7 106 6] [0,1] (qR [Qm 8 0,Qm 9 0,Qc 10 9,Qa 11 1 10,Qo 12 11,Qm 13 1,qa 14 (.raw (.call (.mk (.builtin .append) #[.tmp 12,.tmp 13] #[107,9]))),Qc 15 8,Qa 16 1 15,QS 1 16 14] [1] (qR [Qm 17 1,QN 18 17,Qm 4 18,qa 5 (.mov (.c (.sc .nilIface)))] [4,5] .ret)))
theorem c52:FB 52 []=some (r52,s52):=by kernel_rfl
def r106:RL:=[]
def s106:SCode:=qR [Qm 2 0,Qc 3 2,Qa 4 0 3,Qo 5 4,qa 6 (.eqnil 3 false (.t 5))] [0,6] (.cond (.t 6) (qr [Qm 7 0,Qm 8 0,qa 9 (.raw (.convert 106 189 (.tmp 8))),Q1 10 196 9,qa 11 (.raw (.convert 189 106 (.tmp 10))),Qc 12 7,Qa 13 0 12,QS 1 13 11] []) (qR [Qm 14 0,Qc 15 14,Qa 16 0 15,Qo 17 16,Qm 18 0,qa 19 (.raw (.binOp .neq 106 (.tmp 17) (.tmp 18) 106))] [19] (.cond (.t 19) .bad .skip)))
theorem c106:FB 106 []=some (r106,s106):=by kernel_rfl
end Go.Av
namespace Go.Av
open Go Go.RowKit List
set_option linter.unusedSimpArgs false
set_option linter.unusedVariables false
theorem rn:∀s:List UInt8,(dQ s).flatten=s.map λc=>AV.int .u8 c.toNat
 |[]=>rfl
 |c::s=>by
  have ih:=rn s
  unfold dQ at ih ⊢
  rw[map_cons,flatten_cons,ih]
  rfl
section
variable {G:Glob} {P:Program}
theorem sa {t Y:TypeId} {e:TypeId} {E:TypeInfo} {z:List AV} {i j:Nat} {g:Option Nat} {rows:List (List AV)} {s:List UInt8} {env:Env} {σ:Store} {K:AV->Store->Prop} (hx:env.get i= .own g e 1 rows) (hy:env.get j= .str s)
  (hu:P.underlying t=some (.slice e)) (hk:P.underlying Y=some .string) (hi:P.info? e=some E) (D:E.size=1) (hz:cK P e=some z) (X:z.length=1) (O:E.bytes≠0)
  (h:appX0 e 1 E.bytes σ g rows (dQ s) K):RAW G P (.call (.mk (.builtin .append) #[.tmp i,.tmp j] #[t,Y])) env σ K ⟨⟩:=by
 intro ρ w a op ho hS Z
 have M:=Z i
 have N:=Z j
 obtain⟨xv,I⟩:∃xv,a.tmps.getD i undef=xv:=⟨_,rfl⟩
 rw[hx,I]at M
 rw[hy]at N
 simp only[Rep]at N
 have F:Src P E.size Y (.string ⟨⟨s⟩⟩) (dQ s).length (Go.byteCells ⟨⟨s⟩⟩) w:=by
  rw[D,fo]
  exact Src.ofString w hk ⟨⟨s⟩⟩
 have V:RepL (σ++ρ) w (dQ s).flatten (Go.byteCells ⟨⟨s⟩⟩):=by
  have e1:=rn s
  rw[e1]
  exact RepL.of_get (by simp[Go.byteCells]) (λk _ _=>by simp[Go.byteCells,Rep])
 rw[←D]at h M
 obtain⟨v,w',r,σ',J,T,s3,ev,rep⟩:=qI (ty:=op.type) hu hi hz (by rw[X,D]) (by rw[D];decide) O hS M F V (λr J=>by
  unfold dQ at J
  obtain⟨c,_,rfl⟩:=mem_map.1 J
  rw[D];rfl) h
 refine⟨v,w',r,σ',.inl ?_,T,s3,ev,rep⟩
 have e3:a.eval (.tmp i)=xv:=I
 have e4:a.eval (.tmp j)= .string ⟨⟨s⟩⟩:=N
 simp[execOp,ho,resolve,invoke,builtin,e3,e4,J]
end
end Go.Av
namespace Go.Av
open Go Go.RowKit Go.Proofs List
set_option linter.unusedSimpArgs false
set_option linter.unusedVariables false
section
variable (G:Glob)
def bldS (b:Nat) (p:Option Addr) (g:Option Nat) (t:List UInt8):Store:=(b,.cells 109 [.sc (.pointer p),.own g 5 1 (dQ t)])::tokS g 5 ((dQ t).length*1)
theorem x83 (a:Addr) (σ:Store):XSpec G Tryz.prog (.func (.func 196) #[] #[]) [.sc (.pointer (some a))] σ λr σ'=>r= .sc (.pointer (some a))/\σ'=σ:=by
 refine⟨196,#[],#[],rfl,λρ w vs F E=>?_⟩
 obtain⟨u,rfl,D⟩:=vs_one (by simpa using E)
 simp only[Rep]at D
 subst D
 refine⟨.pointer (some a),_,σ,w,?_,⟨rfl,rfl⟩,F,Ev.refl _ _,by simp only[Rep]⟩
 rw[run_callFunc_extern Tryz.func196 (by kernel_rfl) (by kernel_rfl) (by kernel_rfl) (e:=Extern.AbiNoEscape.same) (by kernel_rfl)]
 rfl
theorem bld_get (b:Nat) (p:Option Addr) (g:Option Nat) (t:List UInt8):Store.get (bldS b p g t) b=some (.cells 109 [.sc (.pointer p),.own g 5 1 (dQ t)]):=by simp[bldS,Store.get]
theorem f106 (b:Nat) (p:Option Addr) (g:Option Nat) (t:List UInt8) (F:p=none\/p=some ⟨b,0,none⟩):
  ag G Tryz.prog 106 [.sc (.pointer (some ⟨b,0,none⟩))] (bldS b p g t) λr σ=>r= .tup []/\σ=bldS b (some ⟨b,0,none⟩) g t:=by
 refine ag.w c106 ?_
 unfold s106 r106
 have D:RET (.tup []) (bldS b (some ⟨b,0,none⟩) g t) (λr σ=>r= .tup []/\σ=bldS b (some ⟨b,0,none⟩) g t):=⟨_,_,AVle.rfl' _,SubN.refl _,rfl,rfl⟩
 generalize I:(λ(r:AV) σ=>r= .tup []/\σ=bldS b (some ⟨b,0,none⟩) g t)=R at*
 have E:=bld_get b
 rcases F with rfl|rfl
 ·simp only[bldS]at*
  simp only[EV1,EV2,EV3,EV4,EV5,Option.map_some,decide_true,decide_false,seval,↓reduceIte,eq_self]
  simp only[Option.isNone_none]
  simp only[EV1,EV2,EV3,EV4,EV5,Option.map_some,decide_true,decide_false,seval,↓reduceIte,eq_self]
  refine rT (b:=b) (o:=0) (n:=2) rfl Tryz.underlying106 Tryz.underlying189 (by kernel_rfl) (by decide) (E none g t) (by simp) ?_
  simp only[EV1,EV2,EV3,EV4,EV5,Option.map_some,decide_true,decide_false,seval,↓reduceIte,eq_self]
  refine CALL_x (bldS b none g t) [] (x83 G _ _) (ax.rfl' _) (by simp only[bldS,append_nil];exact SubN.refl _) ?_
  rintro r σ' ⟨rfl,rfl⟩
  simp only[bldS,append_nil]
  simp only[EV1,EV2,EV3,EV4,EV5,Option.map_some,decide_true,decide_false,seval,↓reduceIte,eq_self]
  refine rK (b:=b) (o:=0) (n:=2) rfl Tryz.underlying189 Tryz.underlying106 (by kernel_rfl) (E none g t) (by kernel_rfl) ?_
  simp only[EV1,EV2,EV3,EV4,EV5,Option.map_some,decide_true,decide_false,seval,↓reduceIte,eq_self]
  exact D
 ·simp only[bldS]at*
  simp only[EV1,EV2,EV3,EV4,EV5,Option.map_some,decide_true,decide_false,seval,↓reduceIte,eq_self]
  simp only[Option.isNone_some]
  simp only[EV1,EV2,EV3,EV4,EV5,Option.map_some,decide_true,decide_false,seval,↓reduceIte,eq_self]
  refine sb (te:=109) (n:=2) rfl rfl Tryz.underlying106 (by kernel_rfl) ?_
  simp only[EV1,EV2,EV3,EV4,EV5,Option.map_some,decide_true,decide_false,seval,↓reduceIte,eq_self]
  exact D
theorem f52 (b:Nat) (p:Option Addr) (g:Option Nat) (t s:List UInt8) (hp:p=none\/p=some ⟨b,0,none⟩) (X:∀x,g=some x->¬x=b) (ht:t.length+s.length<1000000000):
  ag G Tryz.prog 52 [.sc (.pointer (some ⟨b,0,none⟩)),.str s] (bldS b p g t) λr σ=>r= .tup [.int .i64 s.length,.sc .nilIface]/\∃D,(∀x,D=some x->¬x=b)/\σ=bldS b (some ⟨b,0,none⟩) D (t++s):=by
 refine ag.w c52 ?_
 unfold s52 r52
 have N:∀D σ,(∀x,D=some x->¬x=b)->SubN (bldS b (some ⟨b,0,none⟩) D (t++s)) σ->RET (.tup [.int .i64 s.length,.sc .nilIface]) σ (λr σ=>r= .tup [.int .i64 s.length,.sc .nilIface]/\∃D,(∀x,D=some x->¬x=b)/\σ=bldS b (some ⟨b,0,none⟩) D (t++s)):=
  λD σ E Y=>⟨_,_,AVle.rfl' _,Y,rfl,D,E,rfl⟩
 generalize Z:(λ(r:AV) σ=>r= .tup [.int .i64 s.length,.sc .nilIface]/\∃D,(∀x,D=some x->¬x=b)/\σ=bldS b (some ⟨b,0,none⟩) D (t++s))=R at*
 simp only[EV1,EV2,EV3,EV4,EV5,Option.map_some,decide_true,decide_false,seval,↓reduceIte,eq_self]
 refine aZ (bldS b p g t) [] (f106 G b p g t hp).v (ax.rfl' _) (by rw[append_nil];exact SubN.refl _) ?_
 rintro r σ' ⟨rfl,rfl⟩
 simp only[bldS,append_nil]at*
 simp only[EV1,EV2,EV3,EV4,EV5,Option.map_some,decide_true,decide_false,seval,↓reduceIte,eq_self]
 obtain⟨ac,hi,I⟩:=Option.map_eq_some_iff.1 (show(Tryz.prog.info? 5).map (λi=>(i.size,i.bytes))=some (1,1)by kernel_rfl)
 injection I with hi1 I
 refine sa (e:=5) (z:=[.int .u8 0]) (rows:=dQ t) (s:=s) (g:=g) rfl rfl Tryz.underlying107 Tryz.underlying9 hi hi1 (by kernel_rfl) rfl (by omega) ?_
 refine⟨?_,.inl (by simp[fo,I];omega),?_⟩
 ·rintro x rfl
  have E:=X x rfl
  have M:¬b=x:=λe=>E e.symm
  simp[Store.get,tokS,M]
 ·intro D _ O
  have V:dQ (t++s)=dQ t++dQ s:=rS t s
  rw[V]at N
  generalize dQ t++dQ s=rows at*
  clear V Z
  rcases g with _|x
  ·rcases D with _|y
   ·(try simp only[EV1,EV2,EV3,EV4,EV5,Option.map_some,decide_true,decide_false,seval,↓reduceIte,eq_self,tokS,dx])
    refine N none _ (by simp) ?_
    exact⟨by intro q J;simp[tokS]at J ⊢;grind,by simp[Store.keys,tokS]<;>grind⟩
   ·have F:¬y=b:=by simpa[Store.erase,Store.keys,tokS]using O y rfl
    have T:¬b=y:=λe=>F e.symm
    (try simp only[EV1,EV2,EV3,EV4,EV5,Option.map_some,decide_true,decide_false,seval,↓reduceIte,eq_self,tokS,dx,F,T])
    refine N (some y) _ (by rintro z ⟨⟩;exact F) ?_
    exact⟨by intro q J;simp[tokS]at J ⊢;grind,by simp[Store.keys,tokS]<;>grind⟩
  ·have E:=X x rfl
   have M:¬b=x:=λe=>E e.symm
   rcases D with _|y
   ·(try simp only[EV1,EV2,EV3,EV4,EV5,Option.map_some,decide_true,decide_false,seval,↓reduceIte,eq_self,tokS,jV,lE,E,M])
    refine N none _ (by simp) ?_
    exact⟨by intro q J;simp[tokS]at J ⊢;grind,by simp[Store.keys,tokS]<;>grind⟩
   ·have F:¬y=b:=by simpa[Store.keys,tokS,jV,lE,M]using O y rfl
    have T:¬b=y:=λe=>F e.symm
    (try simp only[EV1,EV2,EV3,EV4,EV5,Option.map_some,decide_true,decide_false,seval,↓reduceIte,eq_self,tokS,jV,lE,E,M,F,T])
    refine N (some y) _ (by rintro z ⟨⟩;exact F) ?_
    exact⟨by intro q J;simp[tokS]at J ⊢;grind,by simp[Store.keys,tokS]<;>grind⟩
end
set_option maxHeartbeats 2000000 in
set_option maxRecDepth 100000 in
theorem str_row (b g cap:Nat) (p:Value) (cur:Array Value) (l:List UInt8) (w:World) (h0:l≠[]) (hbk:w.heap[b]? =some (.cells #[p,.slice (some ⟨g,0,none⟩) l.length cap] 109 (0,0)))
  (hg:w.heap[g]? =some (.cells cur 5 (0,0))) (hnc:l.length<=cap) (hcm:cap<=maxLen) (hcs:cur.size=cap*1) (hrow:∀(j:Nat) x,l[j]? =some x->w.cell? ⟨g,j,none⟩=some (.int .u8 x.toNat)):
  Calls Tryz.prog 53 #[.pointer (some ⟨b,0,none⟩)] w λe w'=>e= .returned (.string ⟨l.toArray⟩)/\w'=w.drew.freeze ⟨g,0,none⟩ l.length:=by
 have hl0:l.length≠0:=by simpa using h0
 have c1:w.drew.cell? ⟨b,1,none⟩=some (.slice (some ⟨g,0,none⟩) l.length cap):=by
  have:w.drew.heap[b]? =some (.cells #[p,.slice (some ⟨g,0,none⟩) l.length cap] 109 (0,0)):=hbk
  rw[Lib.cell_of_heap this];rfl
 have hSD:(Builtin.unsafeSliceData_ #[107] 150 #[.slice (some ⟨g,0,none⟩) l.length cap]).run Tryz.prog w.drew= .ok (.pointer (some ⟨g,0,none⟩)) w.drew:=
  Lib.run_unsafeSliceData_row _ _ _ _ _ _ (by omega)
 have hUS:(Builtin.unsafeString_ #[150,3] 9 #[.pointer (some ⟨g,0,none⟩),.int .i64 l.length]).run Tryz.prog w.drew= .ok (.string ⟨l.toArray⟩) (w.drew.freeze ⟨g,0,none⟩ l.length):=by
  refine Lib.run_unsafeString_row w.drew 150 3 9 5 Tryz.underlying150 (by kernel_rfl) g cur.size (by have hg':w.drew.heap[g]? =some (.cells cur 5 (0,0)):=hg;simp[World.shape?,hg']) l h0 (by omega) (by unfold maxLen at hcm;omega) ?_
  intro j x hx
  rw[add_lit,Nat.zero_add];exact hrow j x hx
 clear hrow hg hbk hnc hcm hcs
 go_enter Tryz.func53,Tryz.ntmps53
 go_wp2
 go_region
 all_goals(go_wp2;go_ret;exact⟨rfl,rfl⟩)
theorem Ev.freeze {σ:Store} {w:World} (b n:Nat) (M:b∈σ.keys) (cs:Array Value) (e:TypeId) (J:Nat×Nat) (I:w.heap[b]? =some (.cells cs e J)):Ev σ w [] (w.freeze ⟨b,0,none⟩ n):=by
 have E:∀a,(w.freeze ⟨b,0,none⟩ n).cell? a=w.cell? a:=by
  intro a
  unfold World.freeze
  split
  ·rfl
  ·simp only[World.cell?,Array.getElem?_modify]
   by_cases h:b=a.block
   ·rw[if_pos h,←h,I];rfl
   ·rw[if_neg h]
 have D:∀k,(w.freeze ⟨b,0,none⟩ n).shape? k=w.shape? k:=by
  intro k
  unfold World.freeze
  split
  ·rfl
  ·simp only[World.shape?,Array.getElem?_modify]
   by_cases h:b=k
   ·rw[if_pos h,←h,I];rfl
   ·rw[if_neg h]
 refine⟨?_,?_,?_,?_,?_,?_,?_⟩
 ·unfold World.freeze;split<;>rfl
 ·unfold World.freeze;split<;>rfl
 ·unfold World.freeze;split<;>rfl
 ·unfold World.freeze;split<;>simp
 ·intro k X N
  refine⟨?_,by simp[Store.keys]⟩
  have F:¬b=k:=λe=>N (e ▸ M)
  unfold World.freeze
  split
  ·rfl
  ·simp only[Array.getElem?_modify,if_neg F]
 ·intro k s O;rw[D];exact O
 ·intro a v T _
  exact⟨by rw[E];exact T,λm=>by obtain⟨x,V,_⟩:=m;simp at V⟩
section
variable (G:Glob)
theorem f53 (b:Nat) (p:Option Addr) (g:Option Nat) (t:List UInt8):ag G Tryz.prog 53 [.sc (.pointer (some ⟨b,0,none⟩))] (bldS b p g t) λr σ=>r= .str t/\σ=[]:=by
 refine⟨⟨_,Tryz.func53,by kernel_rfl,by kernel_rfl⟩,λρ w vs T hA=>?_⟩
 obtain⟨u,rfl,J⟩:=vs_one hA
 simp only[Rep]at J
 subst J
 obtain⟨vs,D,ac,X⟩:=T.obj b (.cells 109 [.sc (.pointer p),.own g 5 1 (dQ t)]) (by simp[bldS])
 obtain⟨u,v,rfl,J,I⟩:=ji X
 simp only[Rep]at J
 subst J
 have F:(Calls Tryz.prog 53 #[.pointer (some ⟨b,0,none⟩)] w λe w'=>e= .returned (.string ⟨#[]⟩)/\Below w.heap.size w w')->t=[]->
   Calls Tryz.prog 53 #[.pointer (some ⟨b,0,none⟩)] w λe w'=>∃v r σ',e= .returned v/\(r= .str t/\σ'=[])/\Sat G (σ'++ρ) w'/\Ev (bldS b p g t) w σ' w'/\Rep (σ'++ρ) w' r v:=by
  rintro h rfl
  refine h.mono ?_
  rintro e w' ⟨rfl,hB⟩
  refine⟨_,_,[],rfl,⟨rfl,rfl⟩,?_,(Ev.below hB).frame (σf:=[]) (σr:=[]) (λ_ h=>by simp at h),by simp only[Rep]⟩
  exact Sat.below (by simpa using T.subN (SubN.nil _)) hB
 cases g with
 |none=>
  simp only[Rep]at I
  obtain⟨rfl,I⟩:=I
  have V:t=[]:=by simpa[dQ]using I
  exact F (Any.Builder_String_nil Tryz.lays169 Tryz.Builder_Extra_169 _ b (.pointer p) w D) V
 |some x=>
  simp only[Rep]at I
  obtain⟨cap,rfl,Z,h4,h5,h6⟩:=I
  obtain⟨cur,E,ah⟩:=T.obj x (.tok 5 ((dQ t).length*1)) (by simp[bldS,tokS])
  have Y:cur.size=cap*1:=by
   have:w.shape? x=some (5,cur.size):=by simp[World.shape?,E]
   rw[this]at h5
   simpa using h5
  by_cases V:t=[]
  ·subst V
   simp only[dQ,map_nil,length_nil]at D
   by_cases N:cap=0
   ·subst N
    exact F (Any.Builder_String_noroom Tryz.lays169 Tryz.Builder_Extra_169 _ b x (.pointer p) cur w (Nat.le_refl _) D E) rfl
   ·exact F (Any.Builder_String_room Tryz.lays169 Tryz.Builder_Extra_169 _ b x cap (.pointer p) w N D) rfl
  ·rw[fo]at D Z
   refine(str_row b x cap (.pointer p) cur t w V D E Z h4 Y ?_).mono ?_
   ·intro j c hc
    obtain⟨hj,rfl⟩:=List.getElem?_eq_some_iff.1 hc
    have M:=h6.get j (by rw[fo];exact hj)
    have e:(dQ t)[j]'(by rw[fo];exact hj)=[.int .u8 (t[j]).toNat]:=by simp[dQ]
    rw[e]at M
    obtain⟨_,M⟩:=M
    simp only[RepAt]at M
    obtain⟨⟨u,h8,_,h9⟩,_⟩:=M
    simp only[Rep]at h9
    subst h9
    have:=h8.1
    rw[add_lit]at this
    simpa using this
   ·rintro e w' ⟨rfl,rfl⟩
    have O:Ev (bldS b p (some x) t) w [] (w.drew.freeze ⟨x,0,none⟩ t.length):=
     Ev.trans Ev.drew (Ev.freeze x t.length (by simp[bldS,tokS,Store.keys]) cur 5 (0,0) E)
    refine⟨_,_,[],rfl,⟨rfl,rfl⟩,?_,O,by simp only[Rep]⟩
    exact Sat.step T O (by simp[Store.keys]) (by simp[Store.keys]) (by simp)
end
theorem ru (x:Wd) (l:List Wd):ey (x::l)=(32::x.text)++ey l:=by
 unfold ey
 rw[map_cons,flatten_cons]
theorem subN_left (σ τ:Store):SubN σ (σ++τ):=
 ⟨λq E=>mem_append.2 (.inl E),λD=>by rw[az]at D;exact(nodup_append.1 D).1⟩
section
variable (G:Glob)
set_option maxHeartbeats 2000000 in
theorem f29 (l:List Wd) (hn:l.length<1000000) (hl:(ey l).length<100000000):Pure G Tryz.prog 29 [.lst 4 (l.map Wd.cs)] (.str (ey l)):=by
 refine Pure.w c29 λR hR=>?_
 unfold s29 r29
 (repeat' (first|(with_reducible (first|refine ab (λh=>?_) (λh=>?_)|refine ai (λh=>?_) (λh=>?_)|refine aj (λh=>?_) (λh=>?_))<;>(try simp only[DZ]at h))|(with_reducible refine AI (by omega) ?_)|simp only[EVz,seval,↓reduceIte,EV6,EV7,D]|simp only[EVz,seval,↓reduceIte,EV6,EV7]|(with_reducible intro I F;(try(have E:=F;simp only[EVK]at E;first|(have D:=AI E D)|(have D:=E))))|(with_reducible first|refine ae ?_ ?_|refine af ?_)|(exfalso;omega)))
 generalize ac:I=b at*
 refine ay (ι:=List UInt8×Option Addr×Option Nat) l (λi r c=>ey l=c.1++ey r/\(c.2.1=none\/c.2.1=some ⟨b,0,none⟩)/\(∀x,c.2.2=some x->¬x=b)) (λi c=>[(3,.sc (.pointer (some ⟨b,0,none⟩))),(6,.lst 4 (l.map Wd.cs)),(7,.int .i64 l.length),(8,.int .i64 i)]) (λi c=>bldS b c.2.1 c.2.2 c.1) ([],none,none) ⟨rfl,.inl rfl,by simp⟩ ?_ (by omega) (λi x r c M J T=>?_) (λc M O=>?_)
 ·refine Weak.st ?_
  simp only[bldS,dQ,tokS,map_nil]
  exact⟨rfl,rfl,⟨aR.rfl' _,.inr ⟨rfl,rfl⟩,trivial⟩,StLe.rfl' _⟩
 ·obtain⟨N,X,Y⟩:=M
  obtain⟨t,p,g⟩:=c
  simp only at N X Y ⊢
  rw[ru]at N
  have Z:=congrArg List.length N
  rw[length_append,length_append,length_cons]at Z
  (repeat' (first|(with_reducible (first|refine ab (λh=>?_) (λh=>?_)|refine ai (λh=>?_) (λh=>?_)|refine aj (λh=>?_) (λh=>?_))<;>(try simp only[DZ]at h))|(with_reducible refine AI (by omega) ?_)|simp only[EVz,seval,↓reduceIte,EV6,EV7,J.yes,J.le0,J.lt',J.get,J.row,T,Wd.cs,D]|simp only[EVz,seval,↓reduceIte,EV6,EV7,J.yes,J.le0,J.lt',J.get,J.row,T,Wd.cs]|(with_reducible intro I F;(try(have E:=F;simp only[EVK]at E;first|(have D:=AI E D)|(have D:=E))))|(with_reducible first|refine ae ?_ ?_|refine af ?_)|(exfalso;omega)))
  refine aZ (bldS b p g t) [(I,_)] (f52 G b p g t (32::x.text) X Y (by rw[length_cons];omega)).v (ax.rfl' _) (SubN.perm (perm_append_comm (l₂:=[(I,_)]))) ?_
  rintro r' σ' ⟨rfl,g',V,rfl⟩
  (repeat' (first|(with_reducible (first|refine ab (λh=>?_) (λh=>?_)|refine ai (λh=>?_) (λh=>?_)|refine aj (λh=>?_) (λh=>?_))<;>(try simp only[DZ]at h))|(with_reducible refine AI (by omega) ?_)|simp only[EVz,seval,↓reduceIte,EV6,EV7,J.le0,J.lt',T,D]|simp only[EVz,seval,↓reduceIte,EV6,EV7,J.le0,J.lt',T]|(with_reducible intro I F;(try(have E:=F;simp only[EVK]at E;first|(have D:=AI E D)|(have D:=E))))|(with_reducible first|refine ae ?_ ?_|refine af ?_)|(exfalso;omega)))
  refine ap J (t++(32::x.text),some ⟨b,0,none⟩,g') ⟨by rw[N];simp,.inr rfl,V⟩ ?_
  exact Weak.sub (subN_left _ _)
 ·obtain⟨N,X,Y⟩:=M
  obtain⟨t,p,g⟩:=c
  (repeat' (first|(with_reducible (first|refine ab (λh=>?_) (λh=>?_)|refine ai (λh=>?_) (λh=>?_)|refine aj (λh=>?_) (λh=>?_))<;>(try simp only[DZ]at h))|(with_reducible refine AI (by omega) ?_)|simp only[EVz,seval,↓reduceIte,EV6,EV7,O,D]|simp only[EVz,seval,↓reduceIte,EV6,EV7,O]|(with_reducible intro I F;(try(have E:=F;simp only[EVK]at E;first|(have D:=AI E D)|(have D:=E))))|(with_reducible first|refine ae ?_ ?_|refine af ?_)|(exfalso;omega)))
  refine aZ (bldS b p g t) [] (f53 G b p g t).v (ax.rfl' _) (by rw[append_nil];exact SubN.refl _) ?_
  rintro r σ' ⟨rfl,rfl⟩
  (repeat' (first|(with_reducible (first|refine ab (λh=>?_) (λh=>?_)|refine ai (λh=>?_) (λh=>?_)|refine aj (λh=>?_) (λh=>?_))<;>(try simp only[DZ]at h))|(with_reducible refine AI (by omega) ?_)|simp only[EVz,seval,↓reduceIte,EV6,EV7,D]|simp only[EVz,seval,↓reduceIte,EV6,EV7]|(with_reducible intro I F;(try(have E:=F;simp only[EVK]at E;first|(have D:=AI E D)|(have D:=E))))|(with_reducible first|refine ae ?_ ?_|refine af ?_)|(exfalso;omega)))
  exact RET.eq hR (congrArg AV.str (by rw[N];simp[ey]))
end
section
variable (G:Glob)
set_option maxHeartbeats 2000000 in
theorem f32 (l:List Wd) (Y:l.length<1000000) (X:(ey l).length<100000000):Pure G Tryz.prog 32 [.lst 4 (l.map Wd.cs)] (.str (ey l)):=by
 refine Pure.w c32 λR V=>?_
 unfold s32 r32
 (repeat' (first|(with_reducible (first|refine ab (λh=>?_) (λh=>?_)|refine ai (λh=>?_) (λh=>?_)|refine aj (λh=>?_) (λh=>?_))<;>(try simp only[DZ]at h))|(with_reducible refine AI (by omega) ?_)|simp only[EVz,seval,↓reduceIte,EV6,EV7,D]|simp only[EVz,seval,↓reduceIte,EV6,EV7]|(with_reducible intro M F;(try(have E:=F;simp only[EVK]at E;first|(have D:=AI E D)|(have D:=E))))|(with_reducible first|refine ae ?_ ?_|refine af ?_)|(exfalso;omega)))
 refine ay (ι:=List UInt8) l (λi r c=>ey l=c++ey r) (λi c=>[(0,.lst 4 (l.map Wd.cs)),(3,.str c),(4,.int .i64 i)]) (λ_ _=>[]) [] rfl (Weak.rfl' _ _) (by omega) (λi x r c I J O=>?_) (λc I N=>?_)
 ·rw[ru]at I
  have T:=congrArg List.length I
  rw[length_append,length_append,length_cons]at T
  (repeat' (first|(with_reducible (first|refine ab (λh=>?_) (λh=>?_)|refine ai (λh=>?_) (λh=>?_)|refine aj (λh=>?_) (λh=>?_))<;>(try simp only[DZ]at h))|(with_reducible refine AI (by omega) ?_)|simp only[EVz,seval,↓reduceIte,EV6,EV7,J.yes,J.le0,J.lt',J.get,J.row,O,Wd.cs,length_append,length_cons,D]|simp only[EVz,seval,↓reduceIte,EV6,EV7,J.yes,J.le0,J.lt',J.get,J.row,O,Wd.cs,length_append,length_cons]|(with_reducible intro M F;(try(have E:=F;simp only[EVK]at E;first|(have D:=AI E D)|(have D:=E))))|(with_reducible first|refine ae ?_ ?_|refine af ?_)|(exfalso;omega)))
  all_goals exact ap J (c++(32::x.text)) (by rw[I];simp) (Weak.rfl' _ _)
 ·(repeat' (first|(with_reducible (first|refine ab (λh=>?_) (λh=>?_)|refine ai (λh=>?_) (λh=>?_)|refine aj (λh=>?_) (λh=>?_))<;>(try simp only[DZ]at h))|(with_reducible refine AI (by omega) ?_)|simp only[EVz,seval,↓reduceIte,EV6,EV7,N,D]|simp only[EVz,seval,↓reduceIte,EV6,EV7,N]|(with_reducible intro M F;(try(have E:=F;simp only[EVK]at E;first|(have D:=AI E D)|(have D:=E))))|(with_reducible first|refine ae ?_ ?_|refine af ?_)|(exfalso;omega)))
  exact RET.eq V (congrArg AV.str (by rw[I];simp[ey]))
set_option maxHeartbeats 8000000 in
theorem f11a (N:GOk2 G) (p:Pt) (h:p.Small) (X:p.words.length<1000000) (V:(ey p.words).length<100000000) (Y:p.label.length<100000000):Pure G Tryz.prog 11 [.agg p.cs] (.str (fmtP p)):=by
 have Z:=qV h.id
 have l2:=from_len h
 have I:=f27 G N p.id h.id
 have J:=f28 G N p h
 have M:=f29 G p.words X V
 simp only[Idd.cs]at I
 unfold fmtP
 refine Pure.w c11 λR O=>?_
 unfold s11 r11
 unfold Pt.cs at J ⊢
 (repeat' (first|(with_reducible (first|refine ab (λh=>?_) (λh=>?_)|refine ai (λh=>?_) (λh=>?_)|refine aj (λh=>?_) (λh=>?_))<;>(try simp only[DZ]at h))|(with_reducible first|refine AI (by omega) ?_|refine aa I ?_|refine aa J ?_|refine aa M ?_)|simp only[EVz,seval,↓reduceIte,EV6,EV7,length_append,length_cons,length_nil,D]|simp only[EVz,seval,↓reduceIte,EV6,EV7,length_append,length_cons,length_nil]|(with_reducible intro T F;(try(have E:=F;simp only[EVK]at E;first|(have D:=AI E D)|(have D:=E))))|(with_reducible first|refine ae ?_ ?_|refine af ?_)|(exfalso;omega)))
 all_goals
  refine RET.eq O (congrArg AV.str ?_)
  clear O I J M
  simp[*,rD]
set_option maxHeartbeats 8000000 in
theorem f12 (p:Pt) (h:p.Small) (X:p.words.length<1000000) (V:(ey p.words).length<100000000) (Y:p.label.length<100000000):Pure G Tryz.prog 12 [.agg p.cs] (.str (fmtP p)):=by
 have Z:=qV h.id
 have l2:=qV h.par
 have l3:=gD h.at_
 have I:=f30 G p.id h.id
 have J:=f30 G p.parent h.par
 have M:=f32 G p.words X V
 have N:=f31 G _ p.at_ rfl h.at_
 simp only[Idd.cs]at I J
 unfold fmtP
 refine Pure.w c12 λR O=>?_
 unfold s12 r12
 unfold Pt.cs
 (repeat' (first|(with_reducible (first|refine ab (λh=>?_) (λh=>?_)|refine ai (λh=>?_) (λh=>?_)|refine aj (λh=>?_) (λh=>?_))<;>(try simp only[DZ]at h))|(with_reducible first|refine AI (by omega) ?_|refine aa I ?_|refine aa J ?_|refine aa M ?_|refine aa N ?_)|simp only[EVz,seval,↓reduceIte,EV6,EV7,length_append,length_cons,length_nil,D]|simp only[EVz,seval,↓reduceIte,EV6,EV7,length_append,length_cons,length_nil]|(with_reducible intro T F;(try(have E:=F;simp only[EVK]at E;first|(have D:=AI E D)|(have D:=E))))|(with_reducible first|refine ae ?_ ?_|refine af ?_)|(exfalso;omega)))
 all_goals
  refine RET.eq O (congrArg AV.str ?_)
  clear O I J M N
  simp[*,rD]
end
end Go.Av
