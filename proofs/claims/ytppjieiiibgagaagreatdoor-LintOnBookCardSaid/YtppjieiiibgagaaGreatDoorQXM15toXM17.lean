/-
  ENACT, M15: rows cloned into cells of the callee's own; rows cut out and put in.
-/
import Derived.Test.YtppjieiiibgagaaGreatDoorQXC4
import Derived.Test.YtppjieiiibgagaaGreatDoorQXC5
import Derived.Test.YtppjieiiibgagaaGreatDoorQXC6
import Derived.Test.YtppjieiiibgagaaGreatDoorQXAv29toXL23
import Derived.Test.YtppjieiiibgagaaGreatDoorQXAv27toXL28
import Derived.Test.YtppjieiiibgagaaGreatDoorQXAv33toXAv36
import Derived.Test.YtppjieiiibgagaaGreatDoorQXOpItoXM8
set_option linter.all false
namespace Go.Av
open Go Go.RowKit Go.Proofs List
section
variable (G:Glob)
def f278 (rows:List (List AV)) (O:∀r∈rows,r.length=8) (X:rows.length<1000000):aj G Tryz.prog 278 [.lst 8 rows] [] (λr σ=>bW 27 8 rows r σ):=by
 refine aj.w c278 ?_;unfold s278 r278;simp only[EV1,EV2,EV3,EV4,EV5,Option.map_some,decide_true,decide_false,seval,eq_self];intro T F;refine ae (λh=>?_) (λh=>?_)
 ·simp only[EV1,EV2,EV3,EV4,EV5,Option.map_some,decide_true,decide_false,seval,eq_self]
  have E:rows=[]:=by
   rcases Classical.em (rows=[])with D|D
   ·exact D
   ·rw[F D]at h;cases h
  subst E;exact RET.le (y:=.sc (.slice none 0 0)) (Or.inl (Or.inr rfl)) (SubN.refl _) (eX (.inl rfl))
 ·simp only[EV1,EV2,EV3,EV4,EV5,Option.map_some,decide_true,decide_false,seval,eq_self];refine g9 (e:=27) (n:=8) (by kernel_rfl) (by kernel_rfl) (λv I=>?_);simp only[EV1,EV2,EV3,EV4,EV5,Option.map_some,decide_true,decide_false,seval,↓reduceIte,eq_self];refine bZ (e:=27) (e':=27) (sz:=8) (bytes:=120) (rows:=[]) (ys:=rows) (g:=none) (xv:=.sc v) (by kernel_rfl) (by kernel_rfl) (by kernel_rfl) (by kernel_rfl) (by decide) (by decide) rfl (.inl ⟨rfl,rfl,.inr ⟨v,rfl,I⟩⟩) ?_ ?_ ?_ ?_
  ·exact⟨rfl,rfl⟩
  ·simp;omega
  ·intro _ E;subst E;simp only[EV1,EV2,EV3,EV4,EV5,Option.map_some,decide_true,decide_false,seval,eq_self];exact rQ (SubN.refl _) (eX I)
  ·intro b cap pad V D J M N;simp only[EV1,EV2,EV3,EV4,EV5,Option.map_some,decide_true,decide_false,seval,eq_self];simp only[nil_append]at*;exact rQ (SubN.refl _) (bW.mk rfl D J M N)
def f316 (rows:List (List AV)) (O:∀r∈rows,r.length=1) (X:rows.length<1000000):aj G Tryz.prog 316 [.lst 1 rows] [] (λr σ=>bW 3 1 rows r σ):=by
 refine aj.w c316 ?_;unfold s316 r316;simp only[EV1,EV2,EV3,EV4,EV5,Option.map_some,decide_true,decide_false,seval,eq_self];intro T F;refine ae (λh=>?_) (λh=>?_)
 ·simp only[EV1,EV2,EV3,EV4,EV5,Option.map_some,decide_true,decide_false,seval,eq_self]
  have E:rows=[]:=by
   rcases Classical.em (rows=[])with D|D
   ·exact D
   ·rw[F D]at h;cases h
  subst E;exact RET.le (y:=.sc (.slice none 0 0)) (Or.inl (Or.inr rfl)) (SubN.refl _) (eX (.inl rfl))
 ·simp only[EV1,EV2,EV3,EV4,EV5,Option.map_some,decide_true,decide_false,seval,eq_self];refine g9 (e:=3) (n:=1) (by kernel_rfl) (by kernel_rfl) (λv I=>?_);simp only[EV1,EV2,EV3,EV4,EV5,Option.map_some,decide_true,decide_false,seval,↓reduceIte,eq_self];refine bZ (e:=3) (e':=3) (sz:=1) (bytes:=8) (rows:=[]) (ys:=rows) (g:=none) (xv:=.sc v) (by kernel_rfl) (by kernel_rfl) (by kernel_rfl) (by kernel_rfl) (by decide) (by decide) rfl (.inl ⟨rfl,rfl,.inr ⟨v,rfl,I⟩⟩) ?_ ?_ ?_ ?_
  ·exact⟨rfl,rfl⟩
  ·simp;omega
  ·intro _ E;subst E;simp only[EV1,EV2,EV3,EV4,EV5,Option.map_some,decide_true,decide_false,seval,eq_self];exact rQ (SubN.refl _) (eX I)
  ·intro b cap pad V D J M N;simp only[EV1,EV2,EV3,EV4,EV5,Option.map_some,decide_true,decide_false,seval,eq_self];simp only[nil_append]at*;exact rQ (SubN.refl _) (bW.mk rfl D J M N)
set_option maxHeartbeats 1000000 in
def f277 (rows:List (List AV)) (v:AV) (κ:Store) (ho:bW 27 8 rows v κ) (j:Nat) (hj:j<rows.length) (hl:rows.length<1000000):
  aj G Tryz.prog 277 [v,.i j,.i ((j+1:Nat):Int)] κ (λr σ'=>bW 27 8 (rows.take j++rows.drop (j+1)) r σ'):=by
 obtain⟨ad,cap,rfl,h⟩:=ho
 rcases h with⟨rfl,rfl,rfl⟩|⟨b,pad,rfl,rfl,h1,h2,F,Y⟩
 ·simp at hj
 refine aj.w c277 ?_
 unfold s277 r277
 have e0:decide ((j:Int)=((j+1:Nat):Int))=false:=decide_eq_false (by omega)
 obtain⟨O,V⟩:∃O,(if cap=j+1 then 0 else 0+(j+1)*8)=O:=⟨_,rfl⟩
 have Z:O=(j+1)*8\/j+1=rows.length/\O=0:=by
  subst V;split
  ·exact .inr ⟨by omega,rfl⟩
  ·exact .inl (by omega)
 have ah:=az rows F
 obtain⟨D,hD⟩:∃D,(rows.flatten++pad).drop (0+j*8+(rows.drop (j+1)).flatten.length)=D:=⟨_,rfl⟩
 have J:(rows.drop (j+1)).flatten.length=(rows.length-(j+1))*8:=by rw[az _ (λr E=>F r (mem_of_mem_drop E)),length_drop]
 have ac:(rows.take j).flatten.length=j*8:=by rw[az _ (λr E=>F r (mem_of_mem_take E)),length_take,Nat.min_eq_left (by omega)]
 have I:D.length=cap*8-(rows.length-1)*8:=by rw[←hD,length_drop,Y,J];omega
 have aa:aJ (rows.flatten++pad) (0+j*8) (rows.drop (j+1)).flatten=(rows.take j++rows.drop (j+1)).flatten++(D.take 8++D.drop 8):=by
  rw[bg _ _ _ (by rw[J,Y];omega),hD,Nat.zero_add,nQ F (by omega),flatten_append,take_append_drop]
 have X:aJ ((rows.take j++rows.drop (j+1)).flatten++(D.take 8++D.drop 8)) ((rows.length-1)*8) [[AV.int .i64 0,.i 0,.i 0,.i 0,.str [],.nil,.nil,.nil]].flatten=(rows.take j++rows.drop (j+1)).flatten++(zU++D.drop 8):=by
  refine fh ?_ ?_
  ·rw[flatten_append,length_append,ac,J];omega
  ·rw[length_take,I];simp[zU];omega
 have M:∀r∈rows.take j++rows.drop (j+1),r.length=8:=λr E=>by
  rcases mem_append.1 E with E|E
  ·exact F r (mem_of_mem_take E)
  ·exact F r (mem_of_mem_drop E)
 have N:(rows.take j++rows.drop (j+1)).length=rows.length-1:=by rw[length_append,length_take,length_drop];omega
 have T:j+(rows.drop (j+1)).length=rows.length-1:=by rw[length_drop];omega
 generalize al:rows.take j++rows.drop (j+1)=rows' at*
 (repeat' (first|simp only[EV,seval,e0,aa,T,X]|(with_reducible first|refine ag ?_ ?_|refine ai ?_)|(refine bc (e:=27) (sz:=8) (l:=j) (h:=j+1) (m:=rows.length) _ _ _ (by kernel_rfl) (by kernel_rfl) rfl ⟨_,rfl⟩ ⟨_,rfl⟩ ⟨_,rfl⟩ (λ_=>rfl) (by omega) (by omega) h1 rfl rfl rfl ?_)|(refine bc (e:=27) (sz:=8) (l:=0) (h:=j) (m:=cap) 0 j cap (by kernel_rfl) (by kernel_rfl) rfl rfl ⟨_,rfl⟩ rfl (λh=>by cases h) (by omega) (by omega) (Nat.le_refl _) (by split<;>rfl) rfl rfl ?_)|(refine bc (e:=27) (sz:=8) (l:=j+1) (h:=rows.length) (m:=cap) O (rows.length-(j+1)) (cap-(j+1)) (by kernel_rfl) (by kernel_rfl) rfl ⟨_,rfl⟩ rfl rfl (λh=>by cases h) (by omega) (by omega) (Nat.le_refl _) V rfl rfl ?_)|(refine fL (e:=27) (e':=27) (sz:=8) (bytes:=120) (b:=b) (o:=0) (n:=j) (cap:=cap) (rows:=rows.take j) (ys:=rows.drop (j+1)) (cs:=rows.flatten++pad) (z:=zU) (by kernel_rfl) (by kernel_rfl) (by kernel_rfl) (by kernel_rfl) rfl (by decide) (by decide) rfl (if_pos rfl) (RowsAt.head F (by omega)) (by rw[Y];omega) (.inr ⟨b,O,_,_,27,_,rfl,if_pos rfl,tl F hj Z⟩) (by rw[T];omega) (λ_=>?_) (λhc=>by omega))|(refine bc (e:=27) (sz:=8) (l:=rows.length-1) (h:=rows.length) (m:=cap) ((rows.length-1)*8) 1 (cap-(rows.length-1)) (by kernel_rfl) (by kernel_rfl) rfl ⟨_,rfl⟩ ⟨_,rfl⟩ rfl (λh=>by cases h) (by omega) (by omega) (Nat.le_refl _) (by rw[if_neg (by omega)];omega) (by omega) rfl ?_)|(refine qP (elem:=27) (sz:=8) (z:=zU) (by kernel_rfl) (by kernel_rfl) rfl (by decide) rfl (if_pos rfl) (by rw[length_append,length_append,length_take,length_drop,I,az _ M,N];omega) (λh=>by cases h) (λ_=>?_))))
 all_goals
  refine rQ (SubN.refl _) (bW.mk N.symm (by omega) h2 M ?_)
  rw[length_append,az _ M,N]
  simp only[length_cons,length_drop,I]
  omega
def x233 {σ:Store} {D E T O c2 k1:Nat} {cs:List AV} {I:TypeId} {rows:List (List AV)} (F:D≠E) (J:σ.get D=some (.tok 27 k1)) (M:σ.get E=some (.cells I cs)) (N:cs≠[]):
  XSpec G Tryz.prog (.func (.func 311) #[] #[]) [.own (some D) 27 8 rows,.sc (.slice (some ⟨E,T,none⟩) O c2)] σ (λr σ'=>r= .bool false/\σ'=σ):=
 XOVER (tS:=25) (tR:=4) (e:=27) (sz:=8) (λw vs=>run_callFunc_extern (e:=Extern.SlicesOverlaps.overlaps #[25,25] #[4]) Tryz.func311 (by kernel_rfl) (by kernel_rfl) (by kernel_rfl) (by kernel_rfl) vs w) (by kernel_rfl) (by kernel_rfl) F J M N
def fB (rows:List (List AV)) (j:Nat) (x:List AV):List (List AV):=rows.take j++x::rows.drop j
def putAt_len (rows:List (List AV)) (j:Nat) (x:List AV):(fB rows j x).length=rows.length+1:=by
 unfold fB;rw[length_append,length_cons,length_take,length_drop];omega
def putAt_row {sz:Nat} {rows:List (List AV)} {j:Nat} {x:List AV} (h:∀r∈rows,r.length=sz) (E:x.length=sz):∀r∈fB rows j x,r.length=sz:=by
 intro r D
 rcases mem_append.1 D with D|D
 ·exact h r (mem_of_mem_take D)
 ·rcases mem_cons.1 D with rfl|D
  ·exact E
  ·exact h r (mem_of_mem_drop D)
set_option maxHeartbeats 2000000 in
def f217 (rows:List (List AV)) (v:AV) (κ:Store) (ho:bW 27 8 rows v κ) (j:Nat) (hj:j<=rows.length) (hl:rows.length<1000000) (O:Nat) (x:List AV) (hx:x.length=8):
  aj G Tryz.prog 217 [v,.i j,.own (some O) 27 8 [x]] (κ++[(O,.tok 27 8)]) (λr σ'=>∃bw,bW 27 8 (fB rows j x) r bw/\σ'=bw++[(O,.tok 27 8)]):=by
 by_cases bk:j=rows.length
 ·subst bk
  have hp:fB rows rows.length x=rows++[x]:=by unfold fB;rw[take_length,drop_length]
  rw[hp];refine aj.wn c217 λT=>?_;unfold s217 r217;obtain⟨J,cap,rfl,h⟩:=ho
  rcases h with⟨rfl,rfl,rfl⟩|⟨b,pad,rfl,rfl,h1,h2,M,h4⟩
  ·have cw:l5 (.slice J 0 0):=by
    cases J with
    |none=>exact .inl rfl
    |some a=>exact .inr ⟨a,rfl⟩
   (repeat' (first|simp only[EV,seval]|(refine qU (e:=27) (sz:=8) (by kernel_rfl) (by kernel_rfl) rfl ⟨_,rfl⟩ rfl rfl (λh=>by cases h) ?_)|(refine bZ (e:=27) (e':=27) (sz:=8) (bytes:=120) (rows:=[]) (ys:=[x]) (g:=none) (xv:=.sc (.slice J 0 0)) (by kernel_rfl) (by kernel_rfl) (by kernel_rfl) (by kernel_rfl) (by decide) (by decide) rfl (.inl ⟨rfl,rfl,.inr ⟨_,rfl,cw⟩⟩) ⟨rfl,rfl⟩ (by simp) (λ_ h=>by cases h) (λb' I pad hb g1 g2 g3 g4=>?_))));exact rQ (SubN.refl _) ⟨_,bW.mk rfl g1 g2 g3 g4,rfl⟩
  ·have aa:¬O=b:=by
    simp[Store.keys]at T;exact λe=>T e.symm
   have d0:Store.erase [(b,AObj.cells 27 (rows.flatten++pad)),(O,.tok 27 8)] (some b)=[(O,.tok 27 8)]:=by simp[Store.erase,aa]
   (repeat' (first|simp only[EV,seval,d0]|(refine bc (e:=27) (sz:=8) (l:=rows.length) (h:=rows.length) (m:=cap) _ _ _ (by kernel_rfl) (by kernel_rfl) rfl ⟨_,rfl⟩ rfl rfl (λh=>by cases h) (by omega) h1 (Nat.le_refl _) rfl rfl rfl ?_)|(refine bZ (e:=27) (e':=27) (sz:=8) (bytes:=120) (rows:=rows) (ys:=[x]) (g:=some b) (xv:=.sc (.slice (some ⟨b,0,none⟩) rows.length cap)) (by kernel_rfl) (by kernel_rfl) (by kernel_rfl) (by kernel_rfl) (by decide) (by decide) rfl (.inr ⟨b,cap,pad,rfl,rfl,if_pos rfl,M,h4,h1,h2⟩) ⟨rfl,rfl⟩ (by simp;omega) (λ_ h=>by cases h) (λb' I E hb g1 g2 g3 g4=>?_))));exact rQ (SubN.refl _) ⟨_,bW.mk (by simp) g1 g2 g3 g4,rfl⟩
 ·obtain⟨J,cap,rfl,h⟩:=ho
  rcases h with⟨rfl,rfl,rfl⟩|⟨b,pad,rfl,rfl,h1,h2,M,h4⟩
  ·simp at hj;exact absurd hj bk
  refine aj.wn c217 λT=>?_;unfold s217 r217
  have aa:¬O=b:=by
   simp[Store.keys]at T;exact λe=>T e.symm
  have bb:¬b=O:=λe=>aa e.symm;have e0:decide ((j:Int)=(rows.length:Int))=false:=decide_eq_false (by omega)
  have w1:IntKind.i64.wrap ((rows.length:Int)+1)=((rows.length+1:Nat):Int):=by rw[av (by omega) (by omega)];omega
  have w2:IntKind.i64.wrap (((rows.length+1:Nat):Int)-(j:Int))=((rows.length+1-j:Nat):Int):=by rw[av (by omega) (by omega)];omega
  have w3:IntKind.i64.wrap ((j:Int)+1)=((j+1:Nat):Int):=by rw[av (by omega) (by omega)];omega
  have bm:j<rows.length:=by omega
  have F:(rows.take j).flatten.length=j*8:=by rw[az _ (λr Z=>M r (mem_of_mem_take Z)),length_take,Nat.min_eq_left (by omega)]
  have N:(rows.drop j).flatten.length=(rows.length-j)*8:=by rw[az _ (λr Z=>M r (mem_of_mem_drop Z)),length_drop]
  have bn:=putAt_len rows j x;have bo:=putAt_row (j:=j) M hx
  have ac:∀D,(fB rows j x).flatten++D=(rows.take j).flatten++(x++((rows.drop j).flatten++D)):=λD=>by unfold fB;simp[append_assoc]
  by_cases hc:rows.length+1<=cap
  ·have e1:decide ((cap:Int)<((rows.length+1:Nat):Int))=false:=decide_eq_false (by omega)
   have e2:8<=pad.length:=by
    have:=az rows M;rw[length_append]at h4;omega
   have bs:rows[j].length=8:=M _ (getElem_mem bm)
   have cm:rows.flatten++pad=(rows.take j).flatten++((rows.drop j++[pad.take 8]).flatten++pad.drop 8):=by
    have h5:rows.flatten=(rows.take j).flatten++(rows.drop j).flatten:=by rw[←flatten_append,take_append_drop]
    rw[h5];simp[append_assoc]
   have ch:RowsAt 8 (rows.flatten++pad) (j*8) (rows.length+1-j) (rows.drop j++[pad.take 8]):=by
    rw[cm];refine uD F.symm (by simp;omega) (λr Z=>?_)
    rcases mem_append.1 Z with Z|Z
    ·exact M r (mem_of_mem_drop Z)
    ·simp only[mem_singleton]at Z;subst Z;rw[length_take];omega
   have dl:(rows.drop j++[pad.take 8]).take (rows.length-j)=rows.drop j:=by
    rw[take_append_of_le_length (by rw[length_drop];omega),take_of_length_le (by rw[length_drop];omega)]
   have V:aJ (rows.flatten++pad) ((j+1)*8) ((rows.drop j++[pad.take 8]).take (rows.length-j)).flatten=(rows.take j).flatten++(rows[j]++((rows.drop j).flatten++pad.drop 8)):=by
    have be:=az rows M;have cp:rows.flatten.drop ((j+1)*8+(rows.drop j).flatten.length)=[]:=drop_eq_nil_of_le (by rw[N,be];omega);rw[dl,bg _ _ _ (by rw[N,h4];omega),nQ M (by omega),drop_append,cp,nil_append,N,be,show(j+1)*8+(rows.length-j)*8-rows.length*8=8 by omega,take_succ_eq_append_getElem bm,flatten_append];simp[append_assoc]
   have X:aJ ((rows.take j).flatten++(rows[j]++((rows.drop j).flatten++pad.drop 8))) (j*8) ([x].take 1).flatten=(fB rows j x).flatten++pad.drop 8:=by
    rw[ac];simpa using fh (A:=(rows.take j).flatten) (B:=rows[j]) (B':=x) (C:=(rows.drop j).flatten++pad.drop 8) F.symm (by rw[hx,bs])
   have bd:rows.flatten++pad≠[]:=λh=>by
    have:=congrArg List.length h;rw[h4]at this;simp at this;omega
   have al:min (rows.drop j++[pad.take 8]).length (rows.length-j)=rows.length-j:=by rw[length_append,length_drop];exact Nat.min_eq_right (Nat.le_add_right _ _)
   have an:min [x].length (rows.length+1-j)=1:=Nat.min_eq_left (by simp;omega)
   have d3:j*8+1*8<=((rows.take j).flatten++(rows[j]++((rows.drop j).flatten++pad.drop 8))).length:=by rw[length_append,length_append,F,bs];omega
   have d1:Store.get [(b,AObj.cells 27 (rows.flatten++pad)),(O,.tok 27 8)] O=some (.tok 27 8):=by simp[Store.get,bb]
   have d2:Store.get [(b,AObj.cells 27 (rows.flatten++pad)),(O,.tok 27 8)] b=some (.cells 27 (rows.flatten++pad)):=by simp[Store.get]
   generalize e4:rows[j]=rj at*;(repeat' (first|simp only[EV,seval,e0,w1,e1,w3]|(with_reducible first|refine ag ?_ ?_|refine ai ?_)|(refine bc (e:=27) (sz:=8) (l:=j) (h:=rows.length) (m:=cap) _ _ _ (by kernel_rfl) (by kernel_rfl) rfl ⟨_,rfl⟩ rfl rfl (λh=>by cases h) (by omega) h1 (Nat.le_refl _) rfl rfl rfl ?_)|(refine qh (e:=27) rfl (by kernel_rfl) ?_)|(refine bc (e:=27) (sz:=8) (l:=0) (h:=rows.length+1) (m:=cap) 0 (rows.length+1) cap (by kernel_rfl) (by kernel_rfl) rfl rfl ⟨_,rfl⟩ rfl (λh=>by cases h) (by omega) hc (Nat.le_refl _) (by split<;>rfl) rfl rfl ?_)|(refine bc (e:=27) (sz:=8) (l:=j+1) (h:=rows.length+1) (m:=cap) ((j+1)*8) (rows.length-j) (cap-(j+1)) (by kernel_rfl) (by kernel_rfl) rfl ⟨_,rfl⟩ rfl rfl (λh=>by cases h) (by omega) hc (Nat.le_refl _) (by rw[if_neg (by omega)];omega) (by omega) rfl ?_)|(refine CALL_x _ [] (x233 G aa d1 d2 bd) (hU _) (by rw[append_nil];exact SubN.refl _) (λr' e3 h'=>?_))|(obtain⟨rfl,rfl⟩:=h')|(refine bc (e:=27) (sz:=8) (l:=j) (h:=rows.length+1) (m:=cap) (j*8) (rows.length+1-j) (cap-j) (by kernel_rfl) (by kernel_rfl) rfl ⟨_,rfl⟩ rfl rfl (λh=>by cases h) (by omega) hc (Nat.le_refl _) (by rw[if_neg (by omega)];omega) (by omega) rfl ?_)|(refine iN (elem:=27) (sz:=8) (b:=b) (ys:=rows.drop j++[pad.take 8]) (rows.length-j) _ (by kernel_rfl) (by kernel_rfl) rfl (if_pos rfl) (.inr ⟨b,j*8,_,_,27,_,rfl,if_pos rfl,ch⟩) al (by omega) (by rw[h4];omega) V ?_)|(refine iN (elem:=27) (sz:=8) (b:=b) (ys:=[x]) 1 _ (by kernel_rfl) (by kernel_rfl) rfl (if_pos rfl) (.inl ⟨rfl,rfl⟩) an (by omega) d3 X ?_)))
   all_goals
    refine rQ (SubN.refl _) ⟨_,bW.mk bn.symm (by omega) h2 bo ?_,rfl⟩
    rw[ac,length_append,length_append,length_append,F,N,hx,length_drop]
    rw[length_append,az rows M]at h4
    omega
  ·have e1:decide ((cap:Int)<((rows.length+1:Nat):Int))=true:=decide_eq_true (by omega)
   have bh:j+(rows.length+1-j)=rows.length+1:=by omega
   have dc:rows.length+1-j=(rows.length-j)+1:=by omega
   have al:min [x].length (rows.length+1-j)=1:=Nat.min_eq_left (by simp;omega)
   have an:min (rows.drop j).length (rows.length-j)=rows.length-j:=by rw[length_drop];exact Nat.min_self _
   obtain⟨Y,ds,aw⟩:∃Y,da Tryz.prog 27=some Y/\Y.length=8:=⟨zU,by kernel_rfl,rfl⟩
   have ad:∀k,(List.replicate k Y).flatten.length=k*8:=λk=>by rw[cz,aw]
   have V:∀E:List AV,aJ ((rows.take j).flatten++((List.replicate (rows.length+1-j) Y).flatten++E)) (j*8) ([x].take 1).flatten=(rows.take j).flatten++(x++((List.replicate (rows.length-j) Y).flatten++E)):=λE=>by
    rw[dc,replicate_succ,flatten_cons,append_assoc];simpa using fh (A:=(rows.take j).flatten) (B:=Y) (B':=x) (C:=(List.replicate (rows.length-j) Y).flatten++E) F.symm (by rw[hx,aw])
   have dd:(rows.drop j).take (rows.length-j)=rows.drop j:=take_of_length_le (by rw[length_drop];omega)
   have X:∀E:List AV,aJ ((rows.take j).flatten++(x++((List.replicate (rows.length-j) Y).flatten++E))) ((j+1)*8) ((rows.drop j).take (rows.length-j)).flatten=(fB rows j x).flatten++E:=λE=>by
    rw[dd,ac];simpa[append_assoc]using fh (o:=(j+1)*8) (A:=(rows.take j).flatten++x) (B:=(List.replicate (rows.length-j) Y).flatten) (B':=(rows.drop j).flatten) (C:=E) (by rw[length_append,F,hx];omega) (by rw[N,ad])
   (repeat' (first|simp only[EV,seval,e0,w1,e1,w2,w3,bh]|(with_reducible first|refine ag ?_ ?_|refine ai ?_)|(refine bc (e:=27) (sz:=8) (l:=j) (h:=rows.length) (m:=cap) (j*8) (rows.length-j) (cap-j) (by kernel_rfl) (by kernel_rfl) rfl ⟨_,rfl⟩ rfl rfl (λh=>by cases h) (by omega) (by omega) (Nat.le_refl _) (by rw[if_neg (by omega)];omega) rfl rfl ?_)|(refine qh (e:=27) rfl (by kernel_rfl) ?_)|(refine bc (e:=27) (sz:=8) (l:=0) (h:=j) (m:=cap) 0 j cap (by kernel_rfl) (by kernel_rfl) rfl rfl ⟨_,rfl⟩ rfl (λh=>by cases h) (by omega) (by omega) (Nat.le_refl _) (by split<;>rfl) rfl rfl ?_)|(refine kO (e:=27) (sz:=8) (bytes:=120) (rows:=rows.take j) (k:=rows.length+1-j) (z:=Y) (kn:=.i64) (by kernel_rfl) (by kernel_rfl) (by kernel_rfl) ds aw (by decide) (by decide) rfl (if_pos rfl) (RowsAt.head M (by omega)) rfl (by omega) (by omega) (by rw[bh];omega) (λb' I E ah g1 g2 g3=>?_))|(simp only[Store.keys,map_cons,map_nil,mem_cons,not_mem_nil,or_false,not_or]at ah)|(refine bc (e:=27) (sz:=8) (l:=j) (h:=rows.length+1) (m:=I) (j*8) (rows.length+1-j) (I-j) (by kernel_rfl) (by kernel_rfl) rfl ⟨_,rfl⟩ rfl rfl (λh=>by cases h) (by omega) (by omega) (Nat.le_refl _) (by rw[if_neg (by omega)];omega) rfl rfl ?_)|(refine iN (elem:=27) (sz:=8) (b:=b') (ys:=[x]) 1 _ (by kernel_rfl) (by kernel_rfl) rfl (if_pos rfl) (.inl ⟨rfl,rfl⟩) al (by omega) (by rw[length_append,length_append,F,ad];omega) (V E) ?_)|(refine bc (e:=27) (sz:=8) (l:=j+1) (h:=rows.length+1) (m:=I) ((j+1)*8) (rows.length-j) (I-(j+1)) (by kernel_rfl) (by kernel_rfl) rfl ⟨_,rfl⟩ rfl rfl (λh=>by cases h) (by omega) (by omega) (Nat.le_refl _) (by rw[if_neg (by omega)];omega) (by omega) rfl ?_)|(refine iN (elem:=27) (sz:=8) (b:=b') (ys:=rows.drop j) (rows.length-j) _ (by kernel_rfl) (by kernel_rfl) rfl (if_pos rfl) (.inr ⟨b,j*8,_,_,27,_,rfl,(if_neg ah.1).trans (if_pos rfl),RowsAt.tail M (by omega)⟩) an (by omega) (by rw[length_append,length_append,length_append,F,hx,ad];omega) (X E) ?_)))
   all_goals
    refine rQ (σ':=[(b',AObj.cells 27 ((fB rows j x).flatten++E))]++[(O,.tok 27 8)]) ⟨λq hq=>?_,λhn=>?_⟩ ⟨_,bW.mk bn.symm (by omega) g2 bo ?_,rfl⟩
    ·simp only[cons_append,nil_append,mem_cons,not_mem_nil,or_false]at hq ⊢
     rcases hq with hq|hq
     ·exact .inl hq
     ·exact .inr (.inr hq)
    ·simp[Store.keys]
     exact ah.2
    ·rw[ac,length_append,length_append,length_append,F,N,hx]
     rw[length_append,length_append,F,ad]at g3;omega
end
section
variable (G:Glob)
def f253 (f:Value) (N:Nat) (St:List U->Store->Prop) (hN:N<1000000):
  ∀(u:U),u.Tame->(∀x∈u.flat,∀pre σ,St pre σ->pre.length<N->du G Tryz.prog f [.agg x.cs] σ (λr σ'=>St (pre++[x]) σ'))->
   ∀pre σ,St pre σ->pre.length+u.flat.length<=N->aj G Tryz.prog 253 [.agg u.cs,.sc f] σ (λr σ'=>St (pre++u.flat) σ'):=by
 refine U.ind λu ih ht hf pre σ X ah=>?_
 have ad:=ht.kids
 have J:=u.flat_eq
 have ac:u.flat.length=1+(U.flats u.kids).length:=by rw[J,length_cons];omega
 refine aj.w c253 ?_
 unfold s253 r253
 (repeat' (simp only[EV,seval]))
 refine bv σ [] (hf u u.flat_self pre σ X (by omega)) (hU _) (by simpa using SubN.refl _) ?_
 rintro r σ' F
 rw[append_nil]
 (repeat' (first|simp only[EV,seval,D.yes,D.le0,D.lt',D.get,D.row,hw]|simp only[EV,seval,hn]|simp only[EV,seval]|(with_reducible intro T I;(try(have M:=I;simp only[EVK]at M;(have al:=M))))|(refine ap (ι:=Store×List U) u.kids (λi r c=>St c.2 c.1/\pre++u.flat=c.2++U.flats r/\c.2.length+(U.flats r).length<=N) (λi c=>[(1,.sc f),(10,.lst 8 (u.kids.map U.cs)),(11,.i u.kids.length),(12,.i i)]) (λi c=>c.1) (σ',pre++[u]) ⟨F,by rw[J];simp,by simp;omega⟩ (dT _ _) (by omega) (λi x r c E D hw=>?_) (λc E hn=>?_))))
 ·obtain⟨Y,O,Z⟩:=E
  rw[aF]at O Z;rw[length_append]at Z;refine bv c.1 [(T,.cells 27 x.cs)] (ih x D.mem (ht.kid D.mem) (λy hy=>hf y (ns D.mem hy)) c.2 c.1 Y (by omega)).v (hU _) sS ?_;rintro r' aa V;(repeat' (simp only[EV,seval,hw]));exact ak D (aa,c.2++x.flat) ⟨V,by rw[O,append_assoc],by simp;omega⟩ (Weak.sub SubN.left)
 ·obtain⟨Y,O,Z⟩:=E
  exact RET.mk (SubN.refl _) (by rw[O,bH,append_nil];exact Y)
def St1 (D E:Nat) (p:List Stp) (s:Stp) (pre:List U) (σ:Store):Prop:=∃v κ,(bW 27 8 ((pre.filter λx=>ay x s).map U.cs) v κ\/(pre.filter λx=>ay x s)=[]/\v= .nil/\κ=[])/\σ=[(D,.cells 28 [.lst 2 (p.map Stp.cs)]),(E,.cells 25 [v])]++κ
def f254 (b3 b5:Nat) (s:Stp) (rs:List Stp) (x:U) (pre:List U) (bs:pre.length<1000000) (σ:Store) (hS:St1 b3 b5 (s::rs) s pre σ):
  aj G Tryz.prog 254 [.agg x.cs,.p b3,.p b5] σ (λr σ'=>St1 b3 b5 (s::rs) s (pre++[x]) σ'):=by
 obtain⟨v,κ,ho,rfl⟩:=hS
 have hC:=f255 G x s
 have aw:(pre.filter λx=>ay x s).length<=pre.length:=length_filter_le _ _
 obtain⟨L,hL⟩:∃L,pre.filter (λx=>ay x s)=L:=⟨_,rfl⟩
 rw[hL]at ho aw
 refine aj.wn c254 λT=>?_
 unfold s254 r254
 have N:(pre++[x]).filter (λx=>ay x s)=if ay x s=true then L++[x]else L:=by
  rw[filter_append,hL]
  cases hq:ay x s<;>simp[hq]
 rcases ho with⟨ac,cap,rfl,⟨h0,rfl,rfl⟩|⟨b,pad,rfl,rfl,h1,h2,h3,h4⟩⟩|⟨h0,rfl,rfl⟩
 ·have bm:L=[]:=by simpa using h0
  subst bm
  have E:¬b5=b3:=by simp[Store.keys]at T;exact λe=>T e.symm
  have F:¬b3=b5:=λe=>E e.symm
  cases hc:ay x s with
  |false=>
   rw[hc]at hC N;(repeat' (first|(with_reducible first|refine AI (by omega) ?_|refine ab hC ?_)|simp only[EV,seval,E,F,map_cons,getD_cons_zero]))
   all_goals exact rQ (SubN.refl _) ⟨_,[],.inl (by rw[N];exact⟨ac,0,rfl,.inl ⟨rfl,rfl,rfl⟩⟩),rfl⟩
  |true=>
   rw[hc]at hC N
   have bo:l5 (.slice ac 0 0):=by
    cases ac with
    |none=>exact .inl rfl
    |some a=>exact .inr ⟨a,rfl⟩
   obtain⟨O,aa⟩:∃O:List AV,O=[.i 0,.i 0,.i 0,.i 0,.str [],.nil,.nil,.nil]:=⟨_,rfl⟩
   have I:O.length=8:=by rw[aa];rfl
   have ah:∀D:List AV,([O].flatten++D).drop 8=D:=λD=>by rw[←I];simp
   have bb:∀D:List AV,8<=([O].flatten++D).length:=λD=>by rw[length_append];simp[I]
   (repeat' (first|(with_reducible first|refine AI (by omega) ?_|refine ab hC ?_)|simp only[EV,seval,E,F,map_cons,getD_cons_zero,er,ah,J]|simp only[EV,seval,E,F,map_cons,getD_cons_zero,er,ah]|(with_reducible intro bd Y;(try(have Z:=Y;simp only[EVK]at Z;(have J:=Z))))|(with_reducible refine ag ?_ ?_)|(refine⟨[O],rfl,(by simp[I]),(by simp[aa]),?_⟩)|(refine bZ (e:=27) (e':=27) (sz:=8) (bytes:=120) (rows:=[]) (ys:=[O]) (g:=none) (xv:=.sc (.slice ac 0 0)) (by kernel_rfl) (by kernel_rfl) (by kernel_rfl) (by kernel_rfl) (by decide) (by decide) rfl (.inl ⟨rfl,rfl,.inr ⟨_,rfl,bo⟩⟩) ⟨rfl,rfl⟩ (by simp) (λ_ h=>by cases h) (λb' M D hb g1 g2 g3 g4=>?_))|((simp only[EVK,er]at hb;have J:=AI hb J))|(refine⟨bb _,_,_,dT _ _,?_⟩)))
   all_goals
    refine rQ (σ':=[(b3,AObj.cells 28 [.lst 2 ((s::rs).map Stp.cs)]),(b5,AObj.cells 25 [.sc (.slice (some ⟨b',0,none⟩) 1 M)])]++[(b',AObj.cells 27 (x.cs++D))]) (SubN.trans (o6 (perm_append_comm (l₁:=[_,_]) (l₂:=[_]))) (SubN.cons (SubN.tail (SubN.refl _) _) _)) ⟨_,_,.inl ?_,rfl⟩
    have:=bW.mk (e:=27) (sz:=8) (b:=b') (rows:=[x.cs]) (pad:=D) (n:=1) (cap:=M) rfl g1 g2 (by simp[ra]) (by rw[←g4];simp[ra,I])
    rw[N]
    simpa using this
 ·have E:¬b5=b3:=by simp[Store.keys]at T;exact λe=>T.1.1 e.symm
  have F:¬b3=b5:=λe=>E e.symm
  have V:¬b3=b:=by simp[Store.keys]at T;exact T.1.2
  have X:¬b5=b:=by simp[Store.keys]at T;exact T.2
  have al:¬b=b3:=λe=>V e.symm;have an:¬b=b5:=λe=>X e.symm;rw[length_map]at h1
  cases hc:ay x s with
  |false=>
   rw[hc]at hC N;(repeat' (first|(with_reducible first|refine AI (by omega) ?_|refine ab hC ?_)|simp only[EV,seval,E,F,V,X,al,an,map_cons,getD_cons_zero,length_map]))
   all_goals exact rQ (SubN.refl _) ⟨_,[(b,_)],.inl (by rw[N];exact bW.mk (by simp) (by rw[length_map];exact h1) h2 h3 h4),rfl⟩
  |true=>
   rw[hc]at hC N;obtain⟨O,aa⟩:∃O:List AV,O=[.i 0,.i 0,.i 0,.i 0,.str [],.nil,.nil,.nil]:=⟨_,rfl⟩
   have I:O.length=8:=by rw[aa];rfl
   obtain⟨R0,ad⟩:∃R0,L.map U.cs=R0:=⟨_,rfl⟩
   have bn:R0.length=L.length:=by rw[←ad,length_map]
   rw[ad]at h3 h4;have aw:=az R0 h3
   have bk:∀D:List AV,aJ ((R0++[O]).flatten++D) (0+R0.length*8) x.cs=(R0++[x.cs]).flatten++D:=λD=>by
    rw[flatten_append,flatten_append,append_assoc,append_assoc];simpa using fh (A:=R0.flatten) (B:=O) (B':=x.cs) (C:=D) (o:=R0.length*8) (by rw[aw]) (by rw[ra,I])
   have bb:∀D:List AV,0+R0.length*8+8<=((R0++[O]).flatten++D).length:=λD=>by rw[length_append,flatten_append,length_append,aw];simp[I]
   have be:(R0++[O]).length=R0.length+1:=by rw[length_append];rfl
   (repeat' (first|(with_reducible first|refine AI (by omega) ?_|refine ab hC ?_)|simp only[EV,seval,E,F,V,X,al,an,map_cons,getD_cons_zero,length_map,lU,nz,bk,be,ad,J]|simp only[EV,seval,E,F,V,X,al,an,map_cons,getD_cons_zero,length_map,lU,nz,bk,be,ad]|(with_reducible intro bd Y;(try(have Z:=Y;simp only[EVK]at Z;(have J:=Z))))|(with_reducible first|refine ag ?_ ?_|refine ai ?_)|(refine⟨[O],rfl,(by simp[I]),(by simp[aa]),?_⟩)|(refine bZ (e:=27) (e':=27) (sz:=8) (bytes:=120) (rows:=R0) (ys:=[O]) (g:=some b) (xv:=.sc (.slice (some ⟨b,0,none⟩) R0.length cap)) (by kernel_rfl) (by kernel_rfl) (by kernel_rfl) (by kernel_rfl) (by decide) (by decide) rfl (.inr ⟨b,cap,pad,rfl,rfl,(by simp[Store.get,J,V,X]),h3,h4,by omega,h2⟩) ⟨rfl,rfl⟩ (by rw[bn];simp;omega) (λ_ h=>by cases h) (λb' M D hb g1 g2 g3 g4=>?_))|((simp[Store.keys,Store.erase,J,V,X]at hb;have J:=AI hb J))))
   all_goals
    refine rQ (σ':=[(b3,AObj.cells 28 [.lst 2 ((s::rs).map Stp.cs)]),(b5,AObj.cells 25 [.sc (.slice (some ⟨b',0,none⟩) (R0.length+1) M)])]++[(b',AObj.cells 27 ((R0++[x.cs]).flatten++D))]) (SubN.trans (o6 (perm_append_comm (l₁:=[_,_]) (l₂:=[_]))) (SubN.cons (SubN.tail (SubN.refl _) _) _)) ⟨_,_,.inl ?_,rfl⟩
    have bh:∀r∈R0++[x.cs],r.length=8:=λr hr=>by
     rcases mem_append.1 hr with hr|hr
     ·exact h3 r hr
     ·simp only[mem_singleton]at hr;subst hr;exact ra x
    have:=bW.mk (e:=27) (sz:=8) (b:=b') (rows:=R0++[x.cs]) (pad:=D) (n:=R0.length+1) (cap:=M) (by simp) (by simpa using g1) g2 bh (by rw[←g4];simp[ra,I])
    rw[N]
    simpa[ad]using this
 ·subst h0
  have E:¬b5=b3:=by simp[Store.keys]at T;exact λe=>T e.symm
  have F:¬b3=b5:=λe=>E e.symm
  cases hc:ay x s with
  |false=>
   rw[hc]at hC N;(repeat' (first|(with_reducible first|refine AI (by omega) ?_|refine ab hC ?_)|simp only[EV,seval,E,F,map_cons,getD_cons_zero]))
   all_goals exact rQ (SubN.refl _) ⟨_,[],.inr ⟨by rw[N];rfl,rfl,rfl⟩,rfl⟩
  |true=>
   rw[hc]at hC N;obtain⟨O,aa⟩:∃O:List AV,O=[.i 0,.i 0,.i 0,.i 0,.str [],.nil,.nil,.nil]:=⟨_,rfl⟩
   have I:O.length=8:=by rw[aa];rfl
   have ah:∀D:List AV,([O].flatten++D).drop 8=D:=λD=>by rw[←I];simp
   have bb:∀D:List AV,8<=([O].flatten++D).length:=λD=>by rw[length_append];simp[I]
   (repeat' (first|(with_reducible first|refine AI (by omega) ?_|refine ab hC ?_)|simp only[EV,seval,E,F,map_cons,getD_cons_zero,er,ah,J]|simp only[EV,seval,E,F,map_cons,getD_cons_zero,er,ah]|(with_reducible intro bd Y;(try(have Z:=Y;simp only[EVK]at Z;(have J:=Z))))|(with_reducible refine ag ?_ ?_)|(refine⟨[O],rfl,(by simp[I]),(by simp[aa]),?_⟩)|(refine bZ (e:=27) (e':=27) (sz:=8) (bytes:=120) (rows:=[]) (ys:=[O]) (g:=none) (xv:=.nil) (by kernel_rfl) (by kernel_rfl) (by kernel_rfl) (by kernel_rfl) (by decide) (by decide) rfl (.inl ⟨rfl,rfl,.inl rfl⟩) ⟨rfl,rfl⟩ (by simp) (λ_ h=>by cases h) (λb' M D hb g1 g2 g3 g4=>?_))|((simp only[EVK,er]at hb;have J:=AI hb J))|(refine⟨bb _,_,_,dT _ _,?_⟩)))
   all_goals
    refine rQ (σ':=[(b3,AObj.cells 28 [.lst 2 ((s::rs).map Stp.cs)]),(b5,AObj.cells 25 [.sc (.slice (some ⟨b',0,none⟩) 1 M)])]++[(b',AObj.cells 27 (x.cs++D))]) (SubN.trans (o6 (perm_append_comm (l₁:=[_,_]) (l₂:=[_]))) (SubN.cons (SubN.tail (SubN.refl _) _) _)) ⟨_,_,.inl ?_,rfl⟩
    have:=bW.mk (e:=27) (sz:=8) (b:=b') (rows:=[x.cs]) (pad:=D) (n:=1) (cap:=M) rfl g1 g2 (by simp[ra]) (by rw[←g4];simp[ra,I])
    rw[N]
    simpa using this
end
end Go.Av
