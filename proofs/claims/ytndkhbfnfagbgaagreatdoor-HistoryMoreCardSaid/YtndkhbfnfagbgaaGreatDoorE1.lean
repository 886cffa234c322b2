/- A part of the proof. -/
import Derived.Lib.DecodeN
import Derived.Lib.ParseIntBCases
import Derived.Test.YtndkhbfnfagbgaaGreatDoorC2
import Derived.Sort.Walk0
import Derived.Laws.Slices
import Derived.Test.YtndkhbfnfagbgaaGreatDoorRow
set_option linter.all false
set_option maxHeartbeats 8000000
set_option maxRecDepth 10000
namespace Go.Scarf
open Go.RowKit Go.Proofs Go.Proofs.Tryz
def V0(n:Nat)(b:Int):Int:=if n=2 then b-192 else if n=3 then b-224 else if n=4 then b-240 else b
theorem all_cons{c:UInt8}{s:Str}(h:(c::s).all Pn=true):Pn c=true/\s.all Pn=true:=by simpa using h
open Go.RowKit Go.Proofs Go.Maps
section
variable {P:Program}{w0 w:World}{Ds ids:List Nat}
theorem FR.noseg{bs sb:List (Nat × Obj)}(h:FR w0 Ds (bs++(sb++[])) w):FR w0 Ds bs w:=h.sub (List.sublist_append_left _ _)
theorem LE{t e:TypeId}(h:P.underlying t=some (.slice e)):P.elem t=e:=by unfold Program.elem;rw[h]
theorem VS{ρ:Operand->Value}{dst:Option Nat}{ty:TypeId}{pos:String}{aft:Array Edge}{g:Option (Nat × Bool)}{t e sz:Nat}{x y z:Operand}{A:Option Addr}{n c:Nat}{k k2:IntKind}(m:Nat)(ht:Wi P t e sz)(hx:ρ x=.slice A n c)(hy:ρ y=.int k (m:Int))(hz:ρ z=.int k2 (m:Int))(hm:m<=c) :
    (execOp ρ ⟨dst,.slice t x none (some y) (some z),ty,pos,aft,g⟩).run P w=.ok (.value (.slice A m m)) w:=by
  have he:=LE ht.1;have ht':P.underlying t=some (.slice (P.elem t)):=by rw[he];exact ht.1
  have h:=run_slice_hm (P:=P) w t A n c ht' k k2 m m sX sX sX;have hs:(sizeOf (P.elem t)).run P w=.ok sz w:=by rw[he];exact ht.2 w
  rw[hs]at h;have e1:sliced A 0 (m:Int).toNat (m:Int).toNat sz=.slice A m m:=by
    unfold sliced;simp only[Int.toNat_natCast,Nat.zero_mul,Nat.sub_zero];split
    ·rfl
    cases A <;> simp[Vo]
  simp only[execOp,Option.map_none,Option.map_some,hx,hy,hz,run_sliceAt_slice w t _ _ _ _ ht',Sem.run_bind,h,Result.andThen,e1];rfl
theorem DU{ρ:Operand->Value}{dst:Option Nat}{ty:TypeId}{pos:String}{aft:Array Edge}{g:Option (Nat × Bool)}{t e sz:Nat}{x y:Operand}{A:Option Addr}{n c:Nat}{k:IntKind}(m:Nat)(ht:Wi P t e sz)(hx:ρ x=.slice A n c)(hy:ρ y=.int k (m:Int))(hm:m<=n) :
    (execOp ρ ⟨dst,.slice t x (some y) none none,ty,pos,aft,g⟩).run P w=.ok (.value (.slice (if c=m then A else A.map (·.add (m*sz))) (n-m) (c-m))) w:=by
  have he:=LE ht.1;have ht':P.underlying t=some (.slice (P.elem t)):=by rw[he];exact ht.1
  have h:=run_slice_l (P:=P) w t A n c ht' k m sX sX;have hs:(sizeOf (P.elem t)).run P w=.ok sz w:=by rw[he];exact ht.2 w
  rw[hs]at h;simp only[execOp,Option.map_none,Option.map_some,hx,hy,run_sliceAt_slice w t _ _ _ _ ht',Sem.run_bind,h,Result.andThen,sliced,Int.toNat_natCast];rfl
end
theorem NP{S:Nat->Prop}{wx:World}:∀{q:List Str},(∀s∈q,s.length<=9223372036854775807)->RepL S wx (q.map Dq) (q.map λs=>Value.string (bs s))
  | [],_=>RepL.nil_mk
  | s::q,h=>RepL.cons_mk (Rep.lit_mk (v:=I s) (h s Da)) (NP λx hx=>h x (by simp[hx]))
section
variable {α:Type}{f:α->α->Int}{xs ys:List α}{j:Nat}{Q q r:Int}
end
open Go.RowKit in
theorem DN{P:Program}{w:World}{ρ:Operand->Value}{dst:Option Nat}{ty:TypeId}{pos:String}{aft:Array Edge}{g:Option (Nat × Bool)}{t kt e:Nat}(ht:P.underlying t=some (.map kt e)) :
    (execOp ρ ⟨dst,.makeMap t none,ty,pos,aft,g⟩).run P w=.ok (.value (.map (some w.heap.size))) (w.alloc (Ji [])):=by
  simp[execOp,Instr.makeMap,run_underlying ht,newObj,Sem.run,Ji,Lc]
theorem OB{rows:List (List Str)}{i:Nat}(h:i<rows.length):(rows.take (i+1)).flatten=(rows.take i).flatten++rows[i]:=by
  rw[iQ h,List.flatten_append];simp
theorem flat_len{rows:List (List Str)}{i:Nat}(h:i<rows.length):(rows.take i).flatten.length+rows[i].length<=rows.flatten.length:=by
  have h1:=OB h;have h2:rows.flatten=(rows.take (i+1)).flatten++(rows.drop (i+1)).flatten:=by rw[<-List.flatten_append,List.take_append_drop]
  rw[h2,dQ,h1,dQ];omega
theorem S7(l:List Str)(acc:List Str):(l.foldl Ts acc).length<=acc.length+l.length:=by
  obtain⟨r,h,hr⟩:=VA l acc;rw[h,dQ];omega
theorem DC{l acc:List Str}{j:Nat}(h:j<l.length):(l.take (j+1)).foldl Ts acc=Ts ((l.take j).foldl Ts acc) l[j]:=by
  rw[iQ h,List.foldl_append];rfl
theorem CP(ks:List Str)(k:Str):Wp ks++[(k,.bool true)]=Wp (ks++[k]):=by unfold Wp;rw[jQ];rfl
theorem union_c(rows:List (List Str))(R:Option Addr)(cr:Nat)(S:Nat->Prop)(w0:World)(hX:Rep S w0 (.slice (rows.map Xd)) [.slice R rows.length cr])(hn:rows.flatten.length<=1000000)(hlim:∀s∈Yf rows,s.length<=9223372036854775807):Calls prog 73 #[.slice R rows.length cr] w0 (Td λv w'=>∃A c,v=.slice A (Yf rows).length c/\Rep (Btw w0 w') w' (Xd (Yf rows)) [.slice A (Yf rows).length c]/\Same [] w0 w'):=by
 have hXl:=hX.slice_len;refine Ga func73 O ntmps73 Fb (Ad _) ?_;have hF:=FR.start w0 [];refine Ja (Ca (Qg O) (Fc (Ca (Qg O) (Fc ?_))));refine Xp (v:=λb=>.map (some b)) hF (DN wZ) ?_;rintro b1 w hb1 hF -;refine Ca (Ry) (Ea (Ha (Ja (Ca (Pd O) (Ca (Ye underlying153 O) (Ca (Kb O) (Ea (Va ?_))))))));have hF:FR w0 [] ([(b1,Ji (Wp []))]++([]++[])) w:=hF;refine Rc (λμ σ w=>∃(i:Nat),∃(acc:List Str),∃(A:Option Addr),∃(c:Nat),∃(sb:List (Nat × Obj)),μ=rows.length-i/\(i<=rows.length)/\(acc=(rows.take i).flatten.foldl Ts [])/\(SlB 9 1 A acc.length c (acc.map λs=>Value.string (bs s)) sb)/\AllEq σ [(3,.slice A acc.length c),(4,.map (some b1)),(10,.slice R rows.length cr),(11,J ((rows.length:Nat))),(12,J ((i:Int)))]/\FR w0 [] ([(b1,Ji (Wp (acc)))]++(sb++[])) w) _ ⟨0,[],none,0,[],O,(Nat.zero_le _),(O),(SlB.nil _ _),Yx,hF⟩ ?_;rintro μ σ w ⟨i,acc,A,c,sb,rfl,hi,hacc,hS,hs,hF⟩;refine Cg.slots hs ?_;clear hs;intro σ;refine Ja (Ca (Kl O O) (Ea (Ha ?_)));refine Pc O O (λhc0=>?_) (λhc0=>?_);refine Ta (Ia (Ha (Va (Ja ?_))));obtain⟨ad0,B0,e0,hA0,hk0,hx0⟩:=hX.row_elem (i:=i) sX;obtain⟨l,hl⟩:∃l,l=rows[i]' sX:=⟨_,rfl⟩;rw[<-hl]at hk0 hx0;have hL:=hx0;have hLl:=hL.slice_len;have hfl:=flat_len (rows:=rows) (i:=i) sX;rw[<-hl]at hfl;refine Ka (v:=.pointer (some (ad0.add (i*1)))) (Pa (i:=(i:Int)) sl_153 O hA0 O sX sX) (Ka (v:=.slice B0 l.length e0) (Jb xQ O (hF.cell0 hk0)) (Ca (Qg O) (Fc (Ca (Pd O) (Ca (Ye dX O) (Ca (Kb O) (Ea (Va ?_))))))));refine Rc (λμ σ w=>∃(j:Nat),∃(acc:List Str),∃(A:Option Addr),∃(c:Nat),∃(sb:List (Nat × Obj)),μ=l.length-j/\(j<=l.length)/\(acc=(l.take j).foldl Ts ((rows.take i).flatten.foldl Ts []))/\(SlB 9 1 A acc.length c (acc.map λs=>Value.string (bs s)) sb)/\AllEq σ [(3,.slice A acc.length c),(4,.map (some b1)),(10,.slice R rows.length cr),(11,J ((rows.length:Nat))),(12,J ((i:Int))),(16,.slice B0 l.length e0),(17,J ((l.length:Nat))),(18,J ((j:Int)))]/\FR w0 [] ([(b1,Ji (Wp (acc)))]++(sb++[])) w) _ ⟨0,acc,A,c,sb,O,(Nat.zero_le _),(by rw[hacc];rfl),(hS),XD,hF⟩ ?_
 rintro μ σ w ⟨j,acc,A,c,sb,rfl,hj,hacc,hS,hs,hF⟩;refine Cg.slots hs ?_;clear hs;intro σ;have hal:acc.length<=(rows.take i).flatten.length+j:=by rw[hacc];have h1:=S7 (l.take j) (((rows.take i).flatten).foldl Ts []);have h2:=S7 (rows.take i).flatten [];rw[List.length_take]at h1;simp only[List.length_nil]at h2;omega
 refine Ja (Ca (Kl O O) (Ea (Ha ?_)));refine Pc O O (λhc1=>?_) (λhc1=>?_);refine Ta (Ia (Ha (Va (Ja ?_))));obtain⟨ad1,hA1,hk1,hx1⟩:=hL.str_elem (i:=j) sX;refine Ka (v:=.pointer (some (ad1.add (j*1)))) (Pa (i:=(j:Int)) Cr O hA1 O sX sX) (Ka (v:=I (l[j])) (Jb fZ O (hF.cell0 hk1)) (Ca (Qm O) (Fc (Ca (Mr) (Ca (Ug O) ?_)))));refine Ka (v:=.bool (decide (l[j]∈acc))) (T4 wZ kX zeroValue4 O O (hF.heap (i:=0) O) (by rw[Cu];split <;> rename_i hh <;> simp only[hh,decide_true,decide_false] <;> rfl)) ?_;refine Ca (ynd O) (Ea ?_);refine Pc O O (λhc2=>?_) (λhc2=>?_);refine Ja (Ca (Mr) (Ca (Ug O) ?_));refine Lx 0 (v:=.bool true) hF wZ kX O O O O (by rw[Cu,if_neg (by assumption)]) ?_;rintro w hF -;rw[CP]at hF;have hF:FR w0 [] ([(b1,Ji (Wp (acc++[l[j]])))]++(sb++[])) w:=hF;refine Ea (Fa (Ca (Pd O) (Ca (Ug O) ?_)));refine Pf 1 hF (Xa (cs:=#[I (l[j])]) dX uZ rX Ua Ua Mb) ?_;rintro b2 w hb2 hF -;refine M5 (news:=[I (l[j])]) (len':=(acc++[l[j]]).length) (ys:=((acc++[l[j]]).map λs=>Value.string (bs s))) Zr hF hS O O (O) (λ_=>⟨_,O,Ob (hF.cellsAll 0 O)⟩) (by simp[Value.oneCell']) (by simp only[maxLen];omega) Da Da sX ?_;intro A2 c2 o_2 w hS2_o hF hE hnew;refine Ca (Qg O) (Db (Ib (Ia (Fa (Ca (Ok (((j+1:Nat):Int)) O O) (Ca (Kb O) (Db ?_)))))));refine Yb ⟨_,?_,j+1,acc++[l[j]],A2,c2,o_2,O,sX,(by rw[DC sX,<-hacc,Ts];exact (if_neg (by assumption)).symm),(hS2_o),XD,hF.drop 1⟩;omega;refine Ta (Ib (Ia (Fa (Ca (Ok (((j+1:Nat):Int)) O O) (Ca (Kb O) (Db ?_))))));refine Yb ⟨_,?_,j+1,acc,A,c,sb,O,sX,(by rw[DC sX,<-hacc,Ts];exact (if_pos (Classical.not_not.1 (by assumption))).symm),(hS),XD,hF⟩;omega;refine Nc (Kc O ?_);refine Ib (Ia (Fa (Ca (Ok (((i+1:Nat):Int)) O O) (Ca (Kb O) (Db ?_)))));refine Yb ⟨_,?_,i+1,acc,A,c,sb,O,sX,(by have etl:l.take j=l:=List.take_of_length_le sX;rw[OB sX,List.foldl_append,<-hl,hacc,etl]),(hS),Yx,hF⟩
 omega;refine Nc (Kc O ?_);refine Ia (Ja (Ca (Pd O) (Ca (Qg O) (Ea ?_))));refine Qd (v:=.slice _ _ _) O O ?_;have ei:i=rows.length:=by omega
 subst ei;rw[List.take_length]at hacc;have e2:acc=Yf rows:=hacc;subst e2;refine⟨_,_,O,?_,hF.same⟩;have hK:RX w0 [] w ((Yf rows).map Dq) _:=NP (q:=Yf rows) hlim;exact hS.rep (pre:=[_]) (post:=[]) hF hK Da
def Uj(x:Tree)(key:Str):List Str:=(XM x key).getD []
def XH(x:Tree)(key id:Str):Tree × Bool:=if id∈Uj x key then (x.items.getD ((Uj x key).idxOf id) zeroT,true) else (zeroT,false)
theorem HV{x:Tree}{key:Str}{l:List Str}(h:XM x key=some l):Kd x=true/\x.kind=5/\DV key x.items []=some l:=by
  unfold XM at h;split at h
  ·rename_i hh;exact⟨hh.1,hh.2,h⟩
  cases h
theorem EK{x:Tree}{key:Str}(h:Uj x key≠[]):(Uj x key).length=x.items.length/\Kd x=true:=by
  unfold Uj at h ⊢;cases hv:XM x key with
  | none=>rw[hv]at h;exact absurd rfl h
  | some l =>
    obtain⟨h1,h2,h3⟩:=HV hv;have:=YH _ _ _ h3;exact⟨by simpa using this,h1⟩
structure Nodes where
  lab:Nat->Str
  lf:Nat->Nat
  le:∀x,lf x<=x
def turn(a b:Nodes)(x y:Nat):Nat:=if a.lab x=b.lab y then 0 else 1
def F5(a b:Nodes):Nat->Nat->Nat->Nat->Nat->Nat
  | 0,i,k,j,l=>(k-i)+(l-j)
  | f + 1, i, k, j, l =>
    if k<=i then l-j else if l<=j then k-i else
      let m:=min (F5 a b f i (k-1) j l) (F5 a b f i k j (l-1))+1
      if i<=a.lf (k-1)/\j<=b.lf (l-1) then min m (F5 a b f i (a.lf (k-1)) j (b.lf (l-1))+F5 a b f (a.lf (k-1)) (k-1) (b.lf (l-1)) (l-1)+turn a b (k-1) (l-1)) else m
def fd(a b:Nodes)(i k j l:Nat):Nat:=F5 a b ((k-i)+(l-j)) i k j l
theorem Cw(a b:Nodes):∀(f g i k j l:Nat),(k-i)+(l-j)<=f->(k-i)+(l-j)<=g->F5 a b f i k j l=F5 a b g i k j l
  | 0,0,_,_,_,_,_,_=>rfl
  | 0,g+1,i,k,j,l,h,_=>by rw[F5,F5,if_pos sX];omega
  | f+1,0,i,k,j,l,_,h=>by rw[F5,F5,if_pos sX];omega
  | f + 1, g + 1, i, k, j, l, h1, h2 => by
    rw[F5,F5];split
    ·rfl
    split
    ·rfl
    have ha:=a.le (k-1);have hb:=b.le (l-1);have e1:F5 a b f i (k-1) j l=F5 a b g i (k-1) j l:=Cw a b f g _ _ _ _ sX sX;have e2:F5 a b f i k j (l-1)=F5 a b g i k j (l-1):=Cw a b f g _ _ _ _ sX sX;simp only[e1,e2];split
    ·rename_i hh
     rw[Cw a b f g i (a.lf (k-1)) j (b.lf (l-1)) sX sX,Cw a b f g (a.lf (k-1)) (k-1) (b.lf (l-1)) (l-1) sX sX]
    rfl
section
variable {a b:Nodes}{i k j l:Nat}
theorem Vr(h:k<=i):fd a b i k j l=l-j:=by
  rw[fd];cases hf:(k-i)+(l-j)with
  | zero=>rw[F5];omega
  | succ f=>rw[F5,if_pos h]
theorem Xv(h:l<=j):fd a b i k j l=k-i:=by
  rw[fd];cases hf:(k-i)+(l-j)with
  | zero=>rw[F5];omega
  | succ f =>
    rw[F5,if_pos h];split <;> omega
theorem H2(h1:i<k)(h2:j<l):fd a b i k j l =
    if i<=a.lf (k-1)/\j<=b.lf (l-1) then min (min (fd a b i (k-1) j l) (fd a b i k j (l-1))+1) (fd a b i (a.lf (k-1)) j (b.lf (l-1))+fd a b (a.lf (k-1)) (k-1) (b.lf (l-1)) (l-1)+turn a b (k-1) (l-1))
    else min (fd a b i (k-1) j l) (fd a b i k j (l-1))+1:=by
  obtain⟨f,hf⟩:∃f,(k-i)+(l-j)=f+1:=⟨(k-i)+(l-j)-1,by omega⟩;have ha:=a.le (k-1);have hb:=b.le (l-1)
  conv=>lhs;rw[fd,hf,F5,if_neg sX,if_neg sX]
  have e1:F5 a b f i (k-1) j l=fd a b i (k-1) j l:=Cw a b _ _ _ _ _ _ sX sX;have e2:F5 a b f i k j (l-1)=fd a b i k j (l-1):=Cw a b _ _ _ _ _ _ sX sX;simp only[e1,e2];split
  ·rename_i hh
   have e3:F5 a b f i (a.lf (k-1)) j (b.lf (l-1))=fd a b i (a.lf (k-1)) j (b.lf (l-1)):=Cw a b _ _ _ _ _ _ sX sX;have e4:F5 a b f (a.lf (k-1)) (k-1) (b.lf (l-1)) (l-1)=fd a b (a.lf (k-1)) (k-1) (b.lf (l-1)) (l-1):=Cw a b _ _ _ _ _ _ sX sX;rw[e3,e4]
  rfl
theorem QF(h:i<k):fd a b i k j l<=fd a b i (k-1) j l+1:=by
  by_cases h2:j<l
  ·rw[H2 h h2];split <;> omega
  rw[Xv sX,Xv sX];omega
theorem DP(h:j<l):fd a b i k j l<=fd a b i k j (l-1)+1:=by
  by_cases h2:i<k
  ·rw[H2 h2 h];split <;> omega
  rw[Vr sX,Vr sX];omega
theorem HK(h1:i<k)(h2:j<l)(h3:i<=a.lf (k-1))(h4:j<=b.lf (l-1)) :
    fd a b i k j l<=fd a b i (a.lf (k-1)) j (b.lf (l-1))+fd a b (a.lf (k-1)) (k-1) (b.lf (l-1)) (l-1)+turn a b (k-1) (l-1):=by
  rw[H2 h1 h2,if_pos ⟨h3,h4⟩];omega
theorem P8(h1:i<k)(h2:j<l):fd a b i k j l=fd a b i (k-1) j l+1\/fd a b i k j l=fd a b i k j (l-1)+1 \/
    (i<=a.lf (k-1)/\j<=b.lf (l-1)/\fd a b i k j l=fd a b i (a.lf (k-1)) j (b.lf (l-1))+fd a b (a.lf (k-1)) (k-1) (b.lf (l-1)) (l-1)+turn a b (k-1) (l-1)):=by
  rw[H2 h1 h2];split
  ·rename_i h;omega
  omega
end
theorem fd_sub(a b:Nodes):∀(n i p k j q l:Nat),(k-p)+(l-q)<=n->i<=p->p<=k->j<=q->q<=l->fd a b i k j l<=fd a b i p j q+fd a b p k q l:=by
  intro n
  induction n with
  | zero =>
    intro i p k j q l hn h1 h2 h3 h4;obtain rfl:p=k:=by omega
    obtain rfl:q=l:=by omega
    omega
  | succ n ih =>
    intro i p k j q l hn h1 h2 h3 h4;by_cases hk:p<k
    ·by_cases hl : q<l
     ·rcases P8 (a := a) (b := b) hk hl with h|h|⟨h5, h6, h⟩
      ·have e := ih i p (k-1) j q l sX h1 sX h3 h4
       have e2:=QF (a:=a) (b:=b) (i:=i) (k:=k) (j:=j) (l:=l) sX;omega
      ·have e := ih i p k j q (l-1) sX h1 h2 h3 sX
       have e2:=DP (a:=a) (b:=b) (i:=i) (k:=k) (j:=j) (l:=l) sX;omega
      have ha := a.le (k-1);have hb:=b.le (l-1);have e:=ih i p (a.lf (k-1)) j q (b.lf (l-1)) sX h1 h5 h3 h6;have e2:=HK (a:=a) (b:=b) (i:=i) (k:=k) (j:=j) (l:=l) sX sX sX sX;omega
     have e := ih i p (k-1) j q l sX h1 sX h3 h4;have e2:=QF (a:=a) (b:=b) (i:=i) (k:=k) (j:=j) (l:=l) sX;rw[Xv (by omega:l<=q)]at e ⊢;omega
    by_cases hl : q<l
    ·have e := ih i p k j q (l-1) sX h1 h2 h3 sX
     have e2:=DP (a:=a) (b:=b) (i:=i) (k:=k) (j:=j) (l:=l) sX;rw[Vr (by omega:k<=p)]at e ⊢;omega
    obtain rfl : p = k := by omega
    obtain rfl:q=l:=by omega
    omega
theorem Mq(a b:Nodes):∀(n i k j l:Nat),(k-i)+(l-j)<=n->fd a b i k j l<=(k-i)+(l-j)/\k-i<=fd a b i k j l+(l-j)/\l-j<=fd a b i k j l+(k-i):=by
  intro n
  induction n with
  | zero =>
    intro i k j l hn;rw[Vr sX];omega
  | succ n ih =>
    intro i k j l hn;by_cases hk:i<k
    ·by_cases hl : j<l
     ·have h0 := QF (a := a) (b := b) (i := i) (k := k) (j := j) (l := l) hk
      have h1:=ih i (k-1) j l sX;have h2:=ih i k j (l-1) sX;have ha:=a.le (k-1);have hb:=b.le (l-1);rcases P8 (a:=a) (b:=b) hk hl with h|h|⟨h5,h6,h⟩
      ·omega
      ·omega
      have h3 := ih i (a.lf (k-1)) j (b.lf (l-1)) sX;have h4:=ih (a.lf (k-1)) (k-1) (b.lf (l-1)) (l-1) sX;omega
     rw[Xv sX];omega
    rw[Vr sX];omega
def Closed(a:Nodes)(i k:Nat):Prop:=∀z,i<=z->z<k->i<=a.lf z
def Nested(a:Nodes)(n:Nat):Prop:=∀x,x<n->Closed a (a.lf x) x
def td(a b:Nodes)(x y:Nat):Nat:=fd a b (a.lf x) (x+1) (b.lf y) (y+1)
theorem td_le(a b:Nodes)(x y:Nat):td a b x y<=fd a b (a.lf x) x (b.lf y) y+turn a b x y:=by
  have ha:=a.le x;have hb:=b.le y;have h:=HK (a:=a) (b:=b) (i:=a.lf x) (k:=x+1) (j:=b.lf y) (l:=y+1) sX sX Da Da;simp only[Nat.add_sub_cancel]at h;rw[Vr (gQ (a.lf x))]at h;unfold td;omega
theorem UW(a b:Nodes){i x j y:Nat}(h1:i<=a.lf x)(h2:j<=b.lf y) :
    fd a b i (x+1) j (y+1)=min (min (fd a b i x j (y+1)) (fd a b i (x+1) j y)+1) (fd a b i (a.lf x) j (b.lf y)+td a b x y):=by
  have ha:=a.le x;have hb:=b.le y;have d1:=QF (a:=a) (b:=b) (i:=i) (k:=x+1) (j:=j) (l:=y+1) sX;have d2:=DP (a:=a) (b:=b) (i:=i) (k:=x+1) (j:=j) (l:=y+1) sX;have s:=fd_sub a b _ i (a.lf x) (x+1) j (b.lf y) (y+1) (gQ _) h1 sX h2 sX;have t:=td_le a b x y;rcases P8 (a:=a) (b:=b) (i:=i) (k:=x+1) (j:=j) (l:=y+1) sX sX with h|h|⟨h5,h6,h⟩ <;> simp only[Nat.add_sub_cancel]at h d1 d2 <;> unfold td at * <;> omega
theorem fd_root(a b:Nodes){x y:Nat} :
    fd a b (a.lf x) (x+1) (b.lf y) (y+1)=min (min (fd a b (a.lf x) x (b.lf y) (y+1)) (fd a b (a.lf x) (x+1) (b.lf y) y)+1) (fd a b (a.lf x) x (b.lf y) y+turn a b x y):=by
  have ha:=a.le x;have hb:=b.le y;have h:=H2 (a:=a) (b:=b) (i:=a.lf x) (k:=x+1) (j:=b.lf y) (l:=y+1) sX sX;simp only[Nat.add_sub_cancel]at h;rw[if_pos ⟨gQ _,gQ _⟩,Vr (gQ (a.lf x)),Nat.sub_self,Nat.zero_add]at h;exact h
def lfOk(fs:List Int)(n:Nat):Prop:=∀j (h:j<fs.length),j<n->0<=fs[j]/\fs[j]<=(j:Int)/\∀i (hi:i<j),fs[j]<=(i:Int)->fs[j]<=fs[i]' sX
def Ek(ls:List Str)(fs:List Int):Prop:=ls.length=fs.length/\ls.length<=512/\lfOk fs fs.length
def Ui(fs:List Int)(x:Nat):Nat:=min (fs.getD x 0).toNat x
def Oc(ls:List Str)(fs:List Int):Nodes:=⟨λx=>ls.getD x [],Ui fs,λ_=>Nat.min_le_right _ _⟩
theorem lfOk.at{fs:List Int}{n j:Nat}(h:lfOk fs n)(hj:j<fs.length)(hn:j<n):((Ui fs j:Nat):Int)=fs[j]:=by
  obtain⟨h1,h2,-⟩:=h j hj hn;have e:fs.getD j 0=fs[j]:=by simp[List.getD,hj]
  rw[Ui,e];omega
theorem lfOk.nest{fs:List Int}{n:Nat}(h:lfOk fs n)(hn:n<=fs.length)(ls:List Str):Nested (Oc ls fs) n:=by
  intro x hx z hz1 hz2;have e1:=h.at (j:=x) sX hx;have e2:=h.at (j:=z) sX sX;have hz1':Ui fs x<=z:=hz1;have:=(h x sX hx).2.2 z hz2 sX;show Ui fs x<=Ui fs z;omega
inductive Rts (fs:List Int):Nat->List Nat->Prop
  | nil:Rts fs 0 []
  | snoc {r:Nat} {l:List Nat}:Rts fs (Ui fs r) l->Rts fs (r+1) (l++[r])
theorem Rts.last{fs:List Int}{p r:Nat}{l:List Nat}(h:Rts fs p (l++[r])):p=r+1/\Rts fs (Ui fs r) l:=by
  generalize e:l++[r]=m at h;cases h with
  | nil=>simp at e
  | snoc h1 =>
    obtain⟨rfl,e2⟩:=List.append_inj' e rfl;simp only[List.cons.injEq,and_true]at e2;subst e2;exact⟨O,h1⟩
theorem Rts.none{fs:List Int}{p:Nat}(h:Rts fs p []):p=0:=by
  generalize e:([]:List Nat)=m at h;cases h with
  | nil=>rfl
  | snoc h1=>simp at e
theorem Rts.len{fs:List Int}{p:Nat}{l:List Nat}(h:Rts fs p l):l.length<=p:=by
  induction h with
  | nil=>simp
  | snoc h1 ih =>
    rename_i r l
    have:Ui fs r<=r:=Nat.min_le_right _ _;simp only[dQ,kQ,List.length_nil];omega
theorem lfOk.snoc{fs:List Int}{j:Nat}(h:lfOk fs j)(hj:j<fs.length)(h0:0<=fs[j])(h1:fs[j]<=(j:Int))(hc:∀z (hz:z<j),fs[j]<=(z:Int)->fs[j]<=fs[z]' sX):lfOk fs (j+1):=by
  intro i hi hn;by_cases e:i=j
  ·subst e
   exact⟨h0,h1,λz hz hle=>hc z hz hle⟩
  exact h i hi sX
theorem lfOk.popped{fs:List Int}{j r:Nat}(h:lfOk fs j)(hj:j<=fs.length)(hr:r<j){left:Int}(hl:left<=((Ui fs r:Nat):Int)){z:Nat}(h1:Ui fs r<=z)(h2:z<=r):left<=fs[z]' sX:=by
  have e1:=h.at (j:=r) sX hr;by_cases e:z=r
  ·subst e;omega
  have := (h r sX hr).2.2 z sX sX;omega
def HY(fs:List Int)(i:Nat):Bool:=decide (∀j,j<fs.length->i<j->fs.getD j 0≠fs.getD i 0)
def Xc(fs:List Int):List Nat:=(List.range fs.length).filter λi=>HY fs i
theorem Li{fs:List Int}{i:Nat}:i∈Xc fs↔i<fs.length/\∀j,j<fs.length->i<j->fs.getD j 0≠fs.getD i 0:=by
  unfold Xc HY;rw[List.mem_filter,List.mem_range,decide_eq_true_eq]
theorem Vx(fs:List Int):(Xc fs).Pairwise (· < ·):=List.Pairwise.filter _ List.pairwise_lt_range
theorem J7(fs:List Int):∀(n x:Nat),fs.length-x<=n->x<fs.length->∃k,x<=k/\k∈Xc fs/\fs.getD k 0=fs.getD x 0:=by
  intro n
  induction n with
  | zero=>intro x h1 h2;omega
  | succ n ih =>
    intro x h1 h2;by_cases h:∀j,j<fs.length->x<j->fs.getD j 0≠fs.getD x 0
    ·exact⟨x,gQ _,Li.2 ⟨h2,h⟩,O⟩
    have:∃j,j<fs.length/\x<j/\fs.getD j 0=fs.getD x 0:=by
      refine Classical.byContradiction λhn=>h λj h3 h4 h5=>hn ⟨j,h3,h4,h5⟩
    obtain⟨j,h3,h4,h5⟩:=this;obtain⟨k,h6,h7,h8⟩:=ih j sX h3;exact⟨k,by omega,h7,h8.trans h5⟩
theorem Gq{fs:List Int}{j:Nat}(h:j<fs.length):fs.getD j 0=fs[j]:=by simp[List.getD,h]
theorem O5{fs:List Int}(h:lfOk fs fs.length){k x:Nat}(hk:k∈Xc fs)(h1:Ui fs k<=x)(h2:x<=k)(hne:Ui fs x≠Ui fs k):∃k',k'<k/\k'∈Xc fs/\Ui fs k'=Ui fs x:=by
  have hkl:=(Li.1 hk).1;obtain⟨k',h3,h4,h5⟩:=J7 fs _ x (gQ _) sX;have hkl':=(Li.1 h4).1;have e1:=h.at hkl hkl;have e2:=h.at hkl' hkl';have e3:=h.at (j:=x) sX sX;rw[Gq hkl',Gq sX]at h5;refine⟨k',?_,h4,by omega⟩;refine Classical.byContradiction λhn=>?_;have hx:=(h k hkl hkl).2.2;have hxx:Ui fs x<=x:=Nat.min_le_right _ _;have hxk:Ui fs k<=Ui fs x:=by
    by_cases e:x=k
    ·subst e;exact gQ _
    have:=hx x sX sX;omega
  by_cases e:k'=k
  ·subst e;omega
  have := (h k' hkl' hkl').2.2 k sX sX;omega
theorem I5{l:List Nat}(h:l.Pairwise (· < ·)){u x:Nat}(hu:u<l.length)(hx:x∈l)(hlt:x<l[u]):x∈l.take u:=by
  obtain⟨i,hi,rfl⟩:=List.getElem_of_mem hx;have:i<u:=by
    refine Classical.byContradiction λhn=>?_;by_cases e:i=u
    ·subst e;omega
    have:=List.pairwise_iff_getElem.1 h u i hu hi sX;omega
  rw[List.mem_take_iff_getElem];exact⟨i,by omega,O⟩
def E0(fs gs:List Int)(u v:Nat)(x y:Nat):Prop :=
  (∃k∈(Xc fs).take u,Ui fs k=Ui fs x)\/(∃h:u<(Xc fs).length,Ui fs (Xc fs)[u]=Ui fs x/\∃l∈(Xc gs).take v,Ui gs l=Ui gs y)
theorem UG{fs gs:List Int}(h:lfOk fs fs.length)(h':lfOk gs gs.length){u v:Nat}(hu:u<(Xc fs).length)(hv:v<(Xc gs).length){x y:Nat}
    (hx1:Ui fs (Xc fs)[u]<=x) (hx2:x<=(Xc fs)[u]) (hy1:Ui gs (Xc gs)[v]<=y) (hy2:y<=(Xc gs)[v])
    (hne:¬(Ui fs x=Ui fs (Xc fs)[u]/\Ui gs y=Ui gs (Xc gs)[v])):E0 fs gs u v x y:=by
  by_cases e:Ui fs x=Ui fs (Xc fs)[u]
  ·obtain⟨k', h1, h2, h3⟩ := O5 h' (eQ hv) hy1 hy2 (λq => hne ⟨e, q⟩)
   exact .inr ⟨hu,e.symm,k',I5 (Vx gs) hv h2 h1,h3⟩
  obtain⟨k', h1, h2, h3⟩ := O5 h (eQ hu) hx1 hx2 e;exact .inl ⟨k',I5 (Vx fs) hu h2 h1,h3⟩
theorem WL{fs gs:List Int}{u v x y:Nat}(hu:u<(Xc fs).length)(hv:v<(Xc gs).length)(h:E0 fs gs u (v+1) x y):E0 fs gs u v x y\/(Ui fs x=Ui fs (Xc fs)[u]/\Ui gs y=Ui gs (Xc gs)[v]):=by
  rcases h with h|⟨_,h1,l,hl,h2⟩
  ·exact .inl (.inl h)
  rw[iQ hv, mQ, pQ]at hl;rcases hl with hl|rfl
  ·exact .inl (.inr ⟨hu,h1,l,hl,h2⟩)
  exact .inr ⟨h1.symm,h2.symm⟩
theorem OT{fs gs:List Int}{u x y:Nat}(hu:u<(Xc fs).length)(hy:y<gs.length)(hg:lfOk gs gs.length)(h:E0 fs gs (u+1) 0 x y):E0 fs gs u (Xc gs).length x y:=by
  rcases h with ⟨k,hk,h1⟩|⟨_,_,l,hl,_⟩
  ·rw[iQ hu, mQ, pQ]at hk
   rcases hk with hk|rfl
   ·exact .inl ⟨k,hk,h1⟩
   obtain⟨l, h2, h3, h4⟩ := J7 gs _ y (gQ _) hy;have hl:=(Li.1 h3).1;have e1:=hg.at hl hl;have e2:=hg.at hy hy;rw[Gq hl,Gq hy]at h4;exact .inr ⟨hu,h1,l,by rw[List.take_of_length_le (gQ _)];exact h3,by omega⟩
  simp at hl
theorem MU{fs gs:List Int}(hf:lfOk fs fs.length){x y:Nat}(hx:x<fs.length):E0 fs gs (Xc fs).length 0 x y:=by
  obtain⟨l,h2,h3,h4⟩:=J7 fs _ x (gQ _) hx;have hl:=(Li.1 h3).1;have e1:=hf.at hl hl;have e2:=hf.at hx hx;rw[Gq hl,Gq hx]at h4;exact .inl ⟨l,by rw[List.take_of_length_le (gQ _)];exact h3,by omega⟩
theorem AO{fs gs:List Int}{x y:Nat}:¬E0 fs gs 0 0 x y:=by
  rintro (⟨k,hk,_⟩|⟨_,_,l,hl,_⟩)
  ·simp at hk
  simp at hl
def Oy(ls:List Str)(fs:List Int)(gs:List Str)(hs:List Int):Nat:=fd (Oc ls fs) (Oc gs hs) 0 ls.length 0 gs.length
section
variable {ls gs ks:List Str}{fs hs is:List Int}
theorem Kx:Oy ls fs gs hs<=ls.length+gs.length/\ls.length<=Oy ls fs gs hs+gs.length/\gs.length<=Oy ls fs gs hs+ls.length:=by
  have:=Mq (Oc ls fs) (Oc gs hs) _ 0 ls.length 0 gs.length (gQ _);simpa[Oy]using this
end
section
variable {ls gs:List Str}{fs hs:List Int}{r:Str}
end
end Go.Scarf
