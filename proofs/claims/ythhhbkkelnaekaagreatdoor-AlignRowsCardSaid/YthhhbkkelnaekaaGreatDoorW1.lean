/- A part of the proof. -/
import Derived.Test.YthhhbkkelnaekaaGreatDoorFacts
import Derived.Test.YthhhbkkelnaekaaGreatDoorNum
import Derived.Test.YthhhbkkelnaekaaGreatDoorShelf
set_option linter.all false
set_option maxHeartbeats 8000000
set_option maxRecDepth 10000
namespace Go.Scarf
open Go.RowKit Go.Proofs Go.Proofs.Tryz
theorem H5 (w:World) (a b:Num):(Op.equal 61 (Kn a) (Kn b)).run prog w=.ok (decide (a=b)) w:=by
  obtain ⟨p,a,m⟩:=a
  obtain ⟨q,b,n⟩:=b
  have h:=YD a b
  simp only [Kn,Num.mk.injEq]
  generalize bs a=u at *
  generalize bs b=v at *
  simp [Op.equal,Op.maxDepth,run_equalIn_struct,go_sem]
  have h':u.toList=v.toList↔a=b:=by
    rw [←decide_eq_true_eq (p:=a=b),←h,beq_iff_eq]
  by_cases h1:p=q <;> by_cases h2:a=b <;> by_cases h3:m=n <;> simp [h1,h2,h3,h'.2,show ¬a=b→¬u.toList=v.toList from fun hn he=>hn (h'.1 he)]
theorem SL {ρ:Operand→Value} {w:World} {dst:Option Nat} {ty:TypeId} {pos:String} {aft:Array Edge} {g:Option (Nat × Bool)} {x y:Operand} {a b:Num} (hx:ρ x=Kn a) (hy:ρ y=Kn b) :
    (execOp ρ ⟨dst,.binOp .eql 61 x y 61,ty,pos,aft,g⟩).run prog w=.ok (.value (.bool (decide (a=b)))) w:=by
  have hg:(eqGuard .eql 61 x y (Kn a) (Kn b)).run prog w=.ok () w:=by
    simp [eqGuard,Kn]
  have h:=H5 w a b
  simp only [execOp,hx,hy,Sem.run_bind,hg,Result.andThen_ok]
  have hb:(binOp .eql 61 (Kn a) (Kn b)).run prog w=.ok (.bool (decide (a=b))) w:=by
    simp only [Kn,binOp] at h ⊢
    simp only [Sem.run_bind,h,Result.andThen_ok,Sem.run_pure]
  rw [hb]; rfl
theorem Jz (s q:Str) (w:World):Calls prog 83 #[.string (bs s),.string (bs q)] w (De fun v w'=>v=.tuple #[.string (bs (Lib.trimPrefix s q)),.bool (Lib.hasPrefix s q)]∧Same [] w w'):=Gt (strings_CutPrefix (bs s) (bs q) w)
theorem U7 (s q:Str) (w:World):Calls prog 85 #[.string (bs s),.string (bs q)] w (De fun v w'=>v=.string (bs (Lib.trimPrefix s q))∧Same [] w w'):=Gt (strings_TrimPrefix (bs s) (bs q) w)
theorem Mz (s:Str) (w:World):Calls prog 55 #[.string (bs s),.string (bs [48])] w (De fun v w'=>v=.string (bs (Lib.trimLeftB s 48))∧Same [] w w'):=Gt (strings_TrimLeft_one (bs s) 48 Ua w)
theorem Z9 (s:Str) (w:World) (h:s.length≤9223372036854775807):Calls prog 56 #[.string (bs s),.string (bs [48])] w (De fun v w'=>v=.string (bs (Lib.trimRightB s 48))∧Same [] w w'):=Gt (strings_TrimRight_one (bs s) 48 Ua w h)
theorem RB (s:Str) (c:UInt8) (w:World):Calls prog 114 #[.string (bs s),.int .u8 (c.toNat:Int)] w (De fun v w'=>v=.int .i64 (Lib.indexByte s c)∧Same [] w w'):=by
  have:=Gt (strings_IndexByte (bs s) (c.toNat:Int) w)
  simpa using this
theorem Sm (s:Str) (w0:World):Calls prog 52 #[.string (bs s)] w0 (De fun v w'=>v=.bool (Gi s)∧Same [] w0 w'):=by
 refine Ka func52 O ntmps52 Kb (Sc _) ?_
 have hF:=FR.start w0 []
 refine Ia (Ca (Hc O) (Ea (Ha (Ia (Ca (Qc O) ?_)))))
 refine Vx (str:=s) hF underlying9 O ?_
 clear hF; rintro b1 w hb1 hF -
 refine Ea (Ta ?_)
 refine Lc (fun μ σ w=>∃ (q:Nat),μ=s.length - q∧(q≤s.length)∧((s.take q).all Ze=true)∧AllEq σ [(0,.string (bs s)),(6,.pointer (some ⟨b1,0,none⟩))]∧FR w0 [] [(b1,.stringIter (bs s) (q))] w) _ ⟨0,O,(Nat.zero_le _),Ma,Iw,hF⟩ ?_
 clear hF; rintro μ σ w ⟨q,rfl,hq,ha,hs,hF⟩
 refine Cg.slots hs ?_
 clear hs; intro σ
 refine Ia ?_
 by_cases hn0:(q) < (s:Str).length
 refine F1 0 (p:=q) (str:=s) hF O O hn0 ?_
 clear hF; rintro w hF -
 replace hF:FR w0 [] [(b1,.stringIter (bs s) (q+(Utf8.decode (bs s) (q)).2))] w:=hF
 refine Ca (Ss O O) (Ea (Ha (Ae O (Qa (Ga (Ta (Ia (Ca (Fm O O) (Ca (Wb O) (Ea ?_))))))))))
 refine Ia (Ca (Va O) (Ca (Yg O O) (Ca (Jc O) ?_)))
 refine Hb (d:=12) O (fun hg1=>?_) (fun hg1=>?_)
 refine Da (Da (Ca (Ic O O) (Ea (Ae O (Ia (Ca (Hc O) (Ea ?_)))))))
 refine Td (v:=.bool false) O O ?_
 have hd:=(Tv s q U).2 U
 exact ⟨by unfold Gi; rw [Ew U hd]; simp,hF.same⟩
 refine Ca (Va O) (Ca (Ho O O) (Ca (Gc O O) (Ea ?_)))
 refine Yb O O (fun hc1=>?_) (fun hc1=>?_)
 refine Ia (Ca (Hc O) (Ea ?_))
 refine Td (v:=.bool false) O O ?_
 have hd:=(Tv s q U).2 U
 exact ⟨by unfold Gi; rw [Ew U hd]; simp,hF.same⟩
 refine Qa (Eb ?_)
 have hd:=(Tv s q U).1 ⟨by omega,by omega⟩
 rw [hd.2] at hF
 refine Ib ⟨_,?_,q+1,O,U,(Hv U ha hd.1),Iw,hF⟩
 omega
 refine Fs 0 (p:=q) (str:=s) hF O O hn0 ?_
 refine Ca (Ss O O) (Ea (Ha (Ie O ?_)))
 refine Dc (Cc O ?_)
 refine Ga (Ia (Ca (Qc O) (Ca (yns O O) (Ca (Hc O) (Ea ?_)))))
 refine Td (v:=.bool _) O O ?_
 have e:s.take q=s:=List.take_of_length_le U
 rw [e] at ha
 exact ⟨by unfold Gi; rw [ha]; simp,hF.same⟩
theorem X8 (x:Num) (hl:x.digits.length≤140737488355328) (w0:World):Calls prog 36 #[Kn x] w0 (De fun v w'=>v=.bool (Zd x)∧Same [] w0 w'):=by
 refine Ka func36 O ntmps36 Kb (Sc _) ?_
 have hF:=FR.start w0 []
 refine Ia ?_
 refine Bh hF O ?_
 clear hF; rintro b1 w hb1 hF -
 refine Ca (Hc O) (Bc (Ca (Ec Ek O) (Tc (Tp isAgg9 O hF.F 0 O O) (Ca (Rd O) (Ea (Ha (Ta (Ia ?_))))))))
 refine Tc (Wj isAgg61 sizeOf61 O hF.F 0 O O) ?_
 refine Ja (w':=w) (v:=.agg #[.bool false,.string (bs []),.int .i64 0]) Qb ?_
 refine Ja (v:=.bool (decide (x=Num.zero))) (SL (a:=x) (b:=Num.zero) O O) (Ca (Hc O) (Ea ?_))
 refine Yb O O (fun hc0=>?_) (fun hc0=>?_)
 refine Ia (Ca (Hc O) (Ea ?_))
 refine Td (v:=.bool true) O O ?_
 exact ⟨by rw [Nz hc0],hF.same⟩
 refine Ha (Ia (Ca (Qc O) ?_))
 refine Jb hF (Sm (x.digits) _) (Cb Ww O O) ?_
 clear hF; intro w hF
 refine Ca (Pn O) (Ca (Hc O) (Ea ?_))
 refine Mi O O (fun hc1=>?_) (fun hc1=>?_)
 refine Qa (Ga (Ae O (Ia (Ca (Hc O) (Ea ?_)))))
 refine Td (v:=.bool false) O O ?_
 exact ⟨by rw [G0 hc0 hc1],hF.same⟩
 refine Ia (Ca (Qc O) (Ca (Xl underlying9 O) (Ca (Ho O O) (Ca (Hc O) (Ea ?_)))))
 refine Yb O O (fun hc2=>?_) (fun hc2=>?_)
 refine Qa (Ga (Ae O (Ia (Ca (Hc O) (Ea ?_)))))
 refine Td (v:=.bool false) O O ?_
 exact ⟨by rw [Sz hc0 hc2],hF.same⟩
 refine Ia (Ca (Qc O) ?_)
 refine Ja (v:=.int .u8 ((((x.digits:Str)[0]'(List.length_pos_iff.2 (Eh (by simpa using hc1)))).toNat:Int))) (Kd (0) underlying9 O O (List.length_pos_iff.2 (Eh (by simpa using hc1)))) ?_
 refine Ca (Th O O) (Ca (Hc O) (Ea ?_))
 refine Yb O O (fun hc3=>?_) (fun hc3=>?_)
 refine Qa (Ga (Ae O (Ia (Ca (Hc O) (Ea ?_)))))
 refine Td (v:=.bool false) O O ?_
 exact ⟨by rw [Qz hc0 _ hc3],hF.same⟩
 refine Fa (Ca (Qc O) (Ca (Qc O) (Ca (Xl underlying9 O) ?_)))
 refine Ja (v:=.int .i64 (((x.digits.length - 1:Nat):Int))) (Gv O O (Id (by have:=List.length_pos_iff.2 (Eh (s:=x.digits) (by simpa using hc1)); omega) U U)) ?_
 refine Ja (v:=.int .u8 ((((x.digits:Str)[x.digits.length - 1]'(by have:=List.length_pos_iff.2 (Eh (s:=x.digits) (by simpa using hc1)); omega)).toNat:Int))) (Kd (x.digits.length - 1) underlying9 O O (by have:=List.length_pos_iff.2 (Eh (s:=x.digits) (by simpa using hc1)); omega)) ?_
 refine Ca (Th O O) (Ca (Hc O) (Ea ?_))
 refine Yb O O (fun hc4=>?_) (fun hc4=>?_)
 refine Ia (Ca (Hc O) (Ea ?_))
 refine Td (v:=.bool false) O O ?_
 exact ⟨by rw [O0 hc0 _ hc4],hF.same⟩
 refine Qa (Eb (Ga (Ia (Ca (Ec Di O) (Tc (Hl isAgg3 O hF.F 0 O O) (Ca (Rv O O) (Ca (Jc O) ?_)))))))
 refine Hb (d:=29) O (fun hg0=>?_) (fun hg0=>?_)
 refine Ca (Ec Di O) (Tc (Hl isAgg3 O hF.F 0 O O) (Ca (J1 O O) (Ca (Ic O O) (Ca (Hc O) (Ea ?_)))))
 refine Td (v:=.bool _) O O ?_
 exact ⟨by rw [Mp hc0 hc1 hc2 _ hc3 _ hc4]; simp [hg0],hF.same⟩
 refine Da (Da (Da (Ca (Gc O O) (Ca (Hc O) (Ea ?_)))))
 refine Td (v:=.bool false) O O ?_
 exact ⟨by rw [Mp hc0 hc1 hc2 _ hc3 _ hc4]; simp [hg0],hF.same⟩
def ID:List Int:=[0,1,56,2,57,49,28,3,61,58,42,50,38,29,17,4,62,47,59,36,45,43,51,22,53,39,33,30,24,18,12,5,63,55,48,27,60,41,37,16,46,35,44,21,52,32,23,11,54,26,40,15,34,20,31,10,25,14,19,9,13,8,7,6]
structure Gl (w:World):Prop where
  size:8≤w.heap.size
  tabs:Lib.Utf8Tabs 1 2 w
  pow:∃ e fz,w.heap[0]? = some (.cells (Lib.pow10Tab.map (fun z=>Value.int .u64 z)).toArray e fz)
  rng:∃ tp q e fz,w.heap[7]? = some (.cells #[.iface tp q] e fz)
  syn:∃ tp q e fz,w.heap[6]? = some (.cells #[.iface tp q] e fz)
  bru:∃ e fz,w.heap[4]? = some (.cells (ID.map (fun z=>Value.int .u8 z)).toArray e fz)
theorem Gl.same {w w':World} {Ds:List Nat} (h:Gl w) (hs:Same Ds w w') (hd:∀ b∈Ds,8≤b):Gl w':=by
  have hb:∀ b,b < 8→w'.heap[b]? = w.heap[b]?:=fun b hb=>hs.block b (Nat.lt_of_lt_of_le hb h.size) (fun hi=>by have:=hd b hi; omega)
  refine ⟨Nat.le_trans h.size hs.size,⟨fun c hc=>?_,fun i hi=>⟨?_,?_⟩⟩,?_,?_,?_,?_⟩
  · rw [←h.tabs.1 c hc]; exact World.cell?_of_block (w:=w) (hb 1 U)
  · rw [←(h.tabs.2 i hi).1]; exact World.cell?_of_block (w:=w) (hb 2 U)
  · rw [←(h.tabs.2 i hi).2]; exact World.cell?_of_block (w:=w) (hb 2 U)
  · rw [hb 0 U]; exact h.pow
  · rw [hb 7 U]; exact h.rng
  · rw [hb 6 U]; exact h.syn
  · rw [hb 4 U]; exact h.bru
theorem Gl.ext {w w':World} (h:Gl w) (hs:Same [] w w'):Gl w':=h.same hs Ma
theorem Gl.tabIs {w:World} (h:Gl w):Lib.TabIs prog w "internal/strconv.uint64pow10" IntKind.u64 Lib.pow10Tab:=by
  obtain ⟨e,fz,hh⟩:=h.pow
  have hg:prog.globalNamed "internal/strconv.uint64pow10" = some 0:=by kernel_rfl
  simp [Lib.TabIs,World.var?,hg,hh]
theorem Gl.err {w:World} (h:Gl w):∃ tp q,World.var? prog w "strconv.ErrRange" = some #[.iface tp q]:=by
  obtain ⟨tp,q,e,fz,hh⟩:=h.rng
  have hg:prog.globalNamed "strconv.ErrRange" = some 7:=by kernel_rfl
  exact ⟨tp,q,by simp [World.var?,hg,hh]⟩
theorem Gl.serr {w:World} (h:Gl w):∃ tp q,World.var? prog w "strconv.ErrSyntax" = some #[.iface tp q]:=by
  obtain ⟨tp,q,e,fz,hh⟩:=h.syn
  have hg:prog.globalNamed "strconv.ErrSyntax" = some 6:=by kernel_rfl
  exact ⟨tp,q,by simp [World.var?,hg,hh]⟩
theorem NJ (w:World) (k:Nat) (os:Array Obj):Same [] w (Go.Sort.grow (w.drewN k) os) :=
  ⟨rfl,rfl,rfl,by rw [Go.Sort.size_grow]; exact Nat.le_add_right _ _,fun b hb _=>Go.Sort.heap_grow_old (w.drewN k) os hb⟩
theorem KE (n:Int) (h1:-9223372036854775808≤n) (h2:n≤9223372036854775807) {w:World} (hG:Gl w):Calls prog 37 #[.int .i64 n] w (De fun v w'=>v=.string (bs (Lib.itoa n))∧Same [] w w') :=
  (strconv_Itoa n h1 h2 w hG.tabIs).mono fun e w' ⟨he,k,os,hw⟩=>⟨_,he,rfl,by subst hw; exact NJ w k os⟩
theorem VP (x:Num) (hl:x.digits.length≤140737488355328) (w0:World) (hG:Gl w0):Calls prog 22 #[Kn x] w0 (De fun v w'=>v=.string (bs (Km x))∧Same [] w0 w'):=by
 refine Ka func22 O ntmps22 Kb (Sc _) ?_
 have hF:=FR.start w0 []
 refine Ia ?_
 refine Bh hF O ?_
 clear hF; rintro b1 w hb1 hF -
 refine Ca (Rd O) (Ea (Ha (Ia (Tc (Wj isAgg61 sizeOf61 O hF.F 0 O O) ?_))))
 refine Jb hF (X8 x hl _) (Cb OO O O) ?_
 clear hF; intro w hF
 refine Ca (Pn O) (Ea ?_)
 refine Mi O O (fun hc0=>?_) (fun hc0=>?_)
 refine Ia (Ca (Rd O) (Ea ?_))
 refine Td (v:=.string (bs [])) O O ?_
 refine ⟨?_,hF.same⟩
 simp_all [Km]
 refine Qa (Ga (Ha (Ia (Ca (Ec Ek O) (Tc (Tp isAgg9 O hF.F 0 O O) (Ca (Ay O O) (Ea ?_)))))))
 refine Yb O O (fun hc1=>?_) (fun hc1=>?_)
 refine Ia (Ca (Rd O) (Ea ?_))
 refine Td (v:=.string (bs [48])) O O ?_
 refine ⟨?_,hF.same⟩
 simp_all [Km]
 refine Qa (Ga (Ia (Ca (Ec Ek O) (Tc (Tp isAgg9 O hF.F 0 O O) (Ca (Rd O) (Ea (Ha (Ia (Ca (Ec G1 O) (Tc (RV isAgg4 O hF.F 0 O O) ?_))))))))))
 refine Ea ?_
 refine Mi O O (fun hc2=>?_) (fun hc2=>?_)
 refine Fa (Ca (Qc O) ?_)
 refine Ja (v:=.string (bs (([45])++(x.digits)))) (Gh O O (by simp; omega)) ?_
 refine Ca (Rd O) (Ea (Ha (Ia (Ca (Ec Di O) (Tc (Hl isAgg3 O hF.F 0 O O) (Ca (Sq O O) (Ea ?_)))))))
 refine Yb O O (fun hc3=>?_) (fun hc3=>?_)
 refine Fa (Ca (Qc O) (Ca (Ec Di O) (Tc (Hl isAgg3 O hF.F 0 O O) ?_)))
 refine Jb hF (KE x.exp (by have:=Pd (x:=x) (by simpa using hc0); omega) (by have:=Pd (x:=x) (by simpa using hc0); omega) (hG.ext hF.same)) (Cb YL O O) ?_
 clear hF; intro w hF
 refine Ja (v:=.string (bs (([101])++(Lib.itoa x.exp)))) (Gh O O (by have:=Lib.itoa_length_le x.exp (by have:=Pd (x:=x) (by simpa using hc0); omega) (by have:=Pd (x:=x) (by simpa using hc0); omega); simp; omega)) ?_
 refine Ja (v:=.string (bs ((([45])++(x.digits))++(([101])++(Lib.itoa x.exp))))) (Gh O O (by have:=Lib.itoa_length_le x.exp (by have:=Pd (x:=x) (by simpa using hc0); omega) (by have:=Pd (x:=x) (by simpa using hc0); omega); simp; omega)) ?_
 refine Ca (Rd O) (Bc (Ca (Qc O) (Ca (Rd O) (Ea ?_))))
 refine Ub (Rb (Sa (An (v:=.string (bs ((([45])++(x.digits))++(([101])++(Lib.itoa x.exp))))) O O) ?_))
 refine ⟨?_,hF.same⟩
 simp_all [Km]
 refine Qa (Ga (Ia (Ca (Qc O) (Ca (Rd O) (Ea ?_)))))
 refine Td (v:=.string (bs (([45])++(x.digits)))) O O ?_
 refine ⟨?_,hF.same⟩
 simp_all [Km]
 refine Qa (Ga (Ha (Ia (Ca (Ec Di O) (Tc (Hl isAgg3 O hF.F 0 O O) (Ca (Sq O O) (Ea ?_)))))))
 refine Yb O O (fun hc3=>?_) (fun hc3=>?_)
 refine Fa (Ca (Qc O) (Ca (Ec Di O) (Tc (Hl isAgg3 O hF.F 0 O O) ?_)))
 refine Jb hF (KE x.exp (by have:=Pd (x:=x) (by simpa using hc0); omega) (by have:=Pd (x:=x) (by simpa using hc0); omega) (hG.ext hF.same)) (Cb YL O O) ?_
 clear hF; intro w hF
 refine Ja (v:=.string (bs (([101])++(Lib.itoa x.exp)))) (Gh O O (by have:=Lib.itoa_length_le x.exp (by have:=Pd (x:=x) (by simpa using hc0); omega) (by have:=Pd (x:=x) (by simpa using hc0); omega); simp; omega)) ?_
 refine Ja (v:=.string (bs ((x.digits)++(([101])++(Lib.itoa x.exp))))) (Gh O O (by have:=Lib.itoa_length_le x.exp (by have:=Pd (x:=x) (by simpa using hc0); omega) (by have:=Pd (x:=x) (by simpa using hc0); omega); simp; omega)) ?_
 refine Ca (Rd O) (Bc (Ca (Qc O) (Ca (Rd O) (Ea ?_))))
 refine Ub (Rb (Sa (An (v:=.string (bs ((x.digits)++(([101])++(Lib.itoa x.exp))))) O O) ?_))
 refine ⟨?_,hF.same⟩
 simp_all [Km]
 refine Qa (Ga (Ia (Ca (Qc O) (Ca (Rd O) (Ea ?_)))))
 refine Td (v:=.string (bs (x.digits))) O O ?_
 refine ⟨?_,hF.same⟩
 simp_all [Km]
theorem FH (s at_:Str) (hl:s.length≤140737488355328) (w0:World):Calls prog 84 #[.string (bs s),.string (bs at_)] w0 (De fun v w'=>v=.tuple #[.string (bs (Wa at_ s).1),.string (bs (Wa at_ s).2.1),.bool (Wa at_ s).2.2]∧Same [] w0 w'):=by
 refine Ka func84 O ntmps84 Kb (Ee _ _) ?_
 have hF:=FR.start w0 []
 refine Ia (Ca (Rd O) (Ca (Rd O) (Ca (Hc O) (Ea (Ha (Ia (Ca (Qc O) (Ca (Xl underlying9 O) (Ca (Va O) (Xa ?_))))))))))
 refine Ga (Ta ?_)
 refine Lc (fun μ σ w=>∃ (q:Nat),μ=s.length - q∧(q≤s.length)∧(∀ c∈s.take q,at_.contains c=false)∧AllEq σ [(0,.string (bs s)),(1,.string (bs at_)),(9,.int .i64 ((((s):Str).length:Int))),(10,.int .i64 ((q:Int)))]∧FR w0 [] [] w) _ ⟨0,O,(Nat.zero_le _),Ma,Gm,hF⟩ ?_
 clear hF; rintro μ σ w ⟨q,rfl,hq,hno,hs,hF⟩
 refine Cg.slots hs ?_
 clear hs; intro σ
 refine Ia (Ca (Yg O O) (Ea (Ha ?_)))
 refine Yb O O (fun hc0=>?_) (fun hc0=>?_)
 refine Qa (Ga (Ha (Ta (Ia (Ca (Va O) (Ca (Wb O) (Bc (Ca (Qc O) (Ca (Qc O) ?_)))))))))
 refine Ca (Va O) (Ja (v:=.int .u8 ((((s:Str)[q]'U).toNat:Int))) (Kd (q) underlying9 O O U) ?_)
 refine Jb hF (RB at_ _ _) (Vb EX O O O) ?_
 clear hF; intro w hF
 refine Ca (Rv O O) (Ea ?_)
 refine Yb O O (fun hc1=>?_) (fun hc1=>?_)
 refine Ha ?_
 refine Ff (zs:=[]) (.free 0 (.free 1 (.free 2 (.free 3 (.free 4 (.free 5 (.free 6 (.free 7 (.free 8 (.free 9 .nil)))))))))) hF ?_
 clear hF; intro w hF
 refine Db O (Qc O) (Db O (Va O) (Oa O (v:=.string (bs ((s:Str).take (q)))) (fun w hC=>Xq (q) underlying9 O O U) (Db O (Qc O) (Db O (Va O) (Db O (If (((q+1:Nat):Int)) O O) (Oa O (v:=.string (bs ((s:Str).drop (q+1)))) (fun w hC=>Yh (q+1) underlying9 O O U) (Db O (Rd O) (Db O (Rd O) (Db O (Hc O) (Mc (Ga ?_)))))))))))
 refine Ub (Rb (Sa (Bq (v:=.string (bs ((s:Str).take (q)))) (x:=.string (bs ((s:Str).drop (q+1)))) (y:=.bool true) O O O O) ?_))
 exact ⟨by rw [Ez U hno (Gy hc1)],hF.same⟩
 refine Qa (Eb (Ga (Fa (Ca (Sl O O) (Ca (Va O) (Xa ?_))))))
 refine Ib ⟨_,?_,q+1,O,U,(Ow U hno (F5 hc1)),Gm,hF⟩
 omega
 refine Dc (Cc O ?_)
 refine Ga (Ia (Ca (Qc O) (Ca (Rd O) (Ca (Rd O) (Ca (Hc O) (Ea ?_))))))
 refine Ub (Rb (Sa (Bq (v:=.string (bs s)) (x:=.string (bs [])) (y:=.bool false) O O O O) ?_))
 have e:s.take q=s:=List.take_of_length_le U
 rw [e] at hno
 exact ⟨by rw [Vy hno],hF.same⟩
theorem LV (s:Str) (hl:s.length≤140737488355328) (w0:World):Calls prog 54 #[.string (bs s)] w0 (De fun v w'=>v=.tuple #[Rq (Zb s).1,.bool (Zb s).2]∧Same [] w0 w'):=by
 refine Ka func54 O ntmps54 Kb (Sc _) ?_
 have hF:=FR.start w0 []
 refine Ia ?_
 refine Fg (cs:=#[.bool false,.bool false,.string (bs []),.string (bs []),.string (bs [])]) hF zeroValue89 O ?_
 clear hF; rintro b1 w hb1 hF -
 refine Ca (Hc O) (Bc (Ca (Qc O) ?_))
 refine Jb hF (Jz s [45] _) (Vb RT O O O) ?_
 clear hF; intro w hF
 refine Ca (Ul O) (Ca (D7 O O) (Ca (Ss O O) (Ca (Rd O) (Ca (Ec ZG O) ?_))))
 refine Mq (.bool _) hF sizeOf4 O O Vm Vm ?_
 clear hF; rintro w hF -
 refine Bc (Ca (Qc O) ?_)
 refine Jb hF (FH (Lib.trimPrefix s [45]) [101,69] (by have:=Zh s [45]; have:=Hg [101,69] (Lib.trimPrefix s [45]); omega) _) (Vb FI O O O) ?_
 clear hF; intro w hF
 refine Ca (Ul O) (Ca (D7 O O) (Ca (D7 O O) (Ca (Ss O O) (Ca (Rd O) (Ca (Rd O) (Ca (Hc O) (Ea (Ha (Ia (Ca (Jc O) (Xa ?_)))))))))))
 refine Ga ?_
 refine Mi O O (fun hc0=>?_) (fun hc0=>?_)
 refine Ia (Ca (Qc O) ?_)
 refine Jb hF (Jz ((Wa [101,69] (Lib.trimPrefix s [45])).2.1) [45] _) (Vb RT O O O) ?_
 clear hF; intro w hF
 refine Ca (Ul O) (Ca (D7 O O) (Ca (Ss O O) (Ca (Rd O) (Ca (Ec I8 O) ?_))))
 refine Mq (.bool _) hF sizeOf4 O O Vm I5 ?_
 clear hF; rintro w hF -
 refine Ea (Ha (Ia (Ca (Ec I8 O) (Tc (RV isAgg4 O hF.F 0 O O) (Ca (Pn O) (Ea ?_))))))
 refine Mi O O (fun hc1=>?_) (fun hc1=>?_)
 refine Fa (Ca (Qc O) ?_)
 refine Jb hF (U7 (Lib.trimPrefix ((Wa [101,69] (Lib.trimPrefix s [45])).2.1) [45]) [43] _) (Vb HZ O O O) ?_
 clear hF; intro w hF
 refine Ca (Rd O) (Bc (Ca (Qc O) ?_))
 refine Jb hF (Sm (Lib.trimPrefix (Lib.trimPrefix ((Wa [101,69] (Lib.trimPrefix s [45])).2.1) [45]) [43]) _) (Cb Ww O O) ?_
 clear hF; intro w hF
 refine Ca (Pn O) (Ea ?_)
 refine Mi O O (fun hc2=>?_) (fun hc2=>?_)
 refine Ia (Tc (Wj isAgg89 sizeOf89 O hF.F 0 O O) ?_)
 refine Ll hF sizeOf89 O O Vm ?_
 clear hF; rintro w hF -
 refine Ca (Hc O) (Ea ?_)
 refine Ub (Rb (Sa (Ve O (l:=[.bool (Lib.hasPrefix s [45]),.bool (Lib.hasPrefix ((Wa [101,69] (Lib.trimPrefix s [45])).2.1) [45]),.string (bs []),.string (bs []),.string (bs [])]) O isAgg89 sizeOf89 O (hF.cellsAll 0 O) (v:=.bool false) O) ?_))
 refine ⟨?_,hF.same⟩
 simp_all [Zb,Bf,Rq,Oi]
 refine Qa (Ga (Ia (Ca (Qc O) (Ca (Ec O1 O) ?_))))
 refine Mq (.string _) hF sizeOf9 O O Vm sI4 ?_
 clear hF; rintro w hF -
 refine Bc (Ca (Qc O) ?_)
 refine Jb hF (FH ((Wa [101,69] (Lib.trimPrefix s [45])).1) [46] (by have:=Zh s [45]; have:=Hg [101,69] (Lib.trimPrefix s [45]); omega) _) (Vb FI O O O) ?_
 clear hF; intro w hF
 refine Ca (Ul O) (Ca (D7 O O) (Ca (D7 O O) (Ca (Ss O O) (Ca (Rd O) (Ca (Rd O) (Ca (Hc O) (Bc (Ca (Qc O) (Ca (Qc O) (Ca (Ec Hx O) ?_))))))))))
 refine Mq (.string _) hF sizeOf9 O O Vm ZR ?_
 clear hF; rintro w hF -
 refine Ca (Ec Gu O) ?_
 refine Mq (.string _) hF sizeOf9 O O Vm TX ?_
 clear hF; rintro w hF -
 refine Ea (Ha (Ia (Ca (Qc O) ?_)))
 refine Jb hF (Sm ((Wa [46] ((Wa [101,69] (Lib.trimPrefix s [45])).1)).1) _) (Cb Ww O O) ?_
 clear hF; intro w hF
 refine Ca (Pn O) (Ca (Jc O) ?_)
 refine Jf (d:=52) O (fun hg0=>?_) (fun hg0=>?_)
 refine Da (Da (Da (Da (Da (Da (Ca (Ic O O) (Ea (Ae O (Ia (Tc (Wj isAgg89 sizeOf89 O hF.F 0 O O) ?_))))))))))
 refine Ll hF sizeOf89 O O Vm ?_
 clear hF; rintro w hF -
 refine Ca (Hc O) (Ea ?_)
 refine Ub (Rb (Sa (Ve O (l:=[.bool (Lib.hasPrefix s [45]),.bool (Lib.hasPrefix ((Wa [101,69] (Lib.trimPrefix s [45])).2.1) [45]),.string (bs ((Wa [46] ((Wa [101,69] (Lib.trimPrefix s [45])).1)).1)),.string (bs ((Wa [46] ((Wa [101,69] (Lib.trimPrefix s [45])).1)).2.1)),.string (bs (Lib.trimPrefix (Lib.trimPrefix ((Wa [101,69] (Lib.trimPrefix s [45])).2.1) [45]) [43]))]) O isAgg89 sizeOf89 O (hF.cellsAll 0 O) (v:=.bool false) O) ?_))
 refine ⟨?_,hF.same⟩
 simp_all [Zb,Bf,Rq,Oi]
 refine Ca (Jc O) (Ca (Jc O) ?_)
 refine Jf (d:=54) O (fun hg1=>?_) (fun hg1=>?_)
 refine Ca (Qc O) ?_
 refine Jb hF (Sm ((Wa [46] ((Wa [101,69] (Lib.trimPrefix s [45])).1)).2.1) _) (Cb Ww O O) ?_
 clear hF; intro w hF
 refine Ca (Pn O) (Ca (Ic O O) (Ca (Gc O O) (Ea ?_)))
 refine Mi O O (fun hc3=>?_) (fun hc3=>?_)
 refine Ia (Tc (Wj isAgg89 sizeOf89 O hF.F 0 O O) ?_)
 refine Ll hF sizeOf89 O O Vm ?_
 clear hF; rintro w hF -
 refine Ca (Hc O) (Ea ?_)
 refine Ub (Rb (Sa (Ve O (l:=[.bool (Lib.hasPrefix s [45]),.bool (Lib.hasPrefix ((Wa [101,69] (Lib.trimPrefix s [45])).2.1) [45]),.string (bs ((Wa [46] ((Wa [101,69] (Lib.trimPrefix s [45])).1)).1)),.string (bs ((Wa [46] ((Wa [101,69] (Lib.trimPrefix s [45])).1)).2.1)),.string (bs (Lib.trimPrefix (Lib.trimPrefix ((Wa [101,69] (Lib.trimPrefix s [45])).2.1) [45]) [43]))]) O isAgg89 sizeOf89 O (hF.cellsAll 0 O) (v:=.bool false) O) ?_))
 refine ⟨?_,hF.same⟩
 simp_all [Zb,Bf,Rq,Oi]
 refine Qa (Ga (Ha ?_))
 refine Ff (zs:=[]) (.free 0 (.free 1 (.free 2 (.free 3 (.free 4 (.free 5 (.free 6 (.free 7 (.act 8 (.free 9 .nil)))))))))) hF ?_
 clear hF; intro w hF
 refine Uk O (Wj isAgg89 sizeOf89 O C0 0 O O) (Db O (Qc O) (Db O (Ay O O) (Db O (Jc O) ?_)))
 refine Ik (d:=64) O (fun hg2=>?_) (fun hg2=>?_)
 refine Jd O ?_
 refine Jd O ?_
 refine Jd O ?_
 refine Db O (Ic O O) ?_
 refine Tu O hF sizeOf89 O O Vm ?_
 clear hF; rintro w hF -
 refine ⟨hF,?_⟩
 refine Db O (Hc O) (Mc (Ga ?_))
 refine Ub (Rb (Sa (Ve O (l:=[.bool (Lib.hasPrefix s [45]),.bool (Lib.hasPrefix ((Wa [101,69] (Lib.trimPrefix s [45])).2.1) [45]),.string (bs ((Wa [46] ((Wa [101,69] (Lib.trimPrefix s [45])).1)).1)),.string (bs ((Wa [46] ((Wa [101,69] (Lib.trimPrefix s [45])).1)).2.1)),.string (bs (Lib.trimPrefix (Lib.trimPrefix ((Wa [101,69] (Lib.trimPrefix s [45])).2.1) [45]) [43]))]) O isAgg89 sizeOf89 O (hF.cellsAll 0 O) (v:=.bool true) O) ?_))
 refine ⟨?_,hF.same⟩
 simp_all [Zb,Bf,Rq,Oi]
 refine Db O (Qc O) ?_
 have hpos:=List.length_pos_iff.2 (Eh (s:=(Wa [46] (Wa [101,69] (Lib.trimPrefix s [45])).1).1) (by simp_all))
 refine Oa O (v:=.int .u8 (((((Wa [46] ((Wa [101,69] (Lib.trimPrefix s [45])).1)).1:Str)[0]'(hpos)).toNat:Int))) (fun w hC=>Kd (0) underlying9 O O (hpos)) (Db O (Sq O O) (Db O (Gc O O) ?_))
 refine Tu O hF sizeOf89 O O Vm ?_
 clear hF; rintro w hF -
 refine ⟨hF,?_⟩
 refine Db O (Hc O) (Mc (Ga ?_))
 refine Ub (Rb (Sa (Ve O (l:=[.bool (Lib.hasPrefix s [45]),.bool (Lib.hasPrefix ((Wa [101,69] (Lib.trimPrefix s [45])).2.1) [45]),.string (bs ((Wa [46] ((Wa [101,69] (Lib.trimPrefix s [45])).1)).1)),.string (bs ((Wa [46] ((Wa [101,69] (Lib.trimPrefix s [45])).1)).2.1)),.string (bs (Lib.trimPrefix (Lib.trimPrefix ((Wa [101,69] (Lib.trimPrefix s [45])).2.1) [45]) [43]))]) O isAgg89 sizeOf89 O (hF.cellsAll 0 O) (v:=.bool (decide ((((((Wa [46] ((Wa [101,69] (Lib.trimPrefix s [45])).1)).1:Str)[0]'(hpos)).toNat:Int):Int)≠(48:Int)))) O) ?_))
 refine ⟨?_,hF.same⟩
 simp_all [Zb,Bf,Rq,Oi]
 refine Da (Da (Da (Ca (Gc O O) (Ca (Gc O O) (Ea (Qj O (Ha ?_)))))))
 refine Ff (zs:=[]) (.free 0 (.free 1 (.free 2 (.free 3 (.free 4 (.free 5 (.free 6 (.free 7 (.act 8 (.free 9 .nil)))))))))) hF ?_
 clear hF; intro w hF
 refine Uk O (Wj isAgg89 sizeOf89 O C0 0 O O) (Db O (Qc O) (Db O (Ay O O) (Db O (Jc O) ?_)))
 refine Ik (d:=64) O (fun hg3=>?_) (fun hg3=>?_)
 refine Jd O ?_
 refine Jd O ?_
 refine Jd O ?_
 refine Db O (Ic O O) ?_
 refine Tu O hF sizeOf89 O O Vm ?_
 clear hF; rintro w hF -
 refine ⟨hF,?_⟩
 refine Db O (Hc O) (Mc (Ga ?_))
 refine Ub (Rb (Sa (Ve O (l:=[.bool (Lib.hasPrefix s [45]),.bool (Lib.hasPrefix ((Wa [101,69] (Lib.trimPrefix s [45])).2.1) [45]),.string (bs ((Wa [46] ((Wa [101,69] (Lib.trimPrefix s [45])).1)).1)),.string (bs ((Wa [46] ((Wa [101,69] (Lib.trimPrefix s [45])).1)).2.1)),.string (bs (Lib.trimPrefix (Lib.trimPrefix ((Wa [101,69] (Lib.trimPrefix s [45])).2.1) [45]) [43]))]) O isAgg89 sizeOf89 O (hF.cellsAll 0 O) (v:=.bool true) O) ?_))
 refine ⟨?_,hF.same⟩
 simp_all [Zb,Bf,Rq,Oi]
 refine Db O (Qc O) ?_
 have hpos:=List.length_pos_iff.2 (Eh (s:=(Wa [46] (Wa [101,69] (Lib.trimPrefix s [45])).1).1) (by simp_all))
 refine Oa O (v:=.int .u8 (((((Wa [46] ((Wa [101,69] (Lib.trimPrefix s [45])).1)).1:Str)[0]'(hpos)).toNat:Int))) (fun w hC=>Kd (0) underlying9 O O (hpos)) (Db O (Sq O O) (Db O (Gc O O) ?_))
 refine Tu O hF sizeOf89 O O Vm ?_
 clear hF; rintro w hF -
 refine ⟨hF,?_⟩
 refine Db O (Hc O) (Mc (Ga ?_))
 refine Ub (Rb (Sa (Ve O (l:=[.bool (Lib.hasPrefix s [45]),.bool (Lib.hasPrefix ((Wa [101,69] (Lib.trimPrefix s [45])).2.1) [45]),.string (bs ((Wa [46] ((Wa [101,69] (Lib.trimPrefix s [45])).1)).1)),.string (bs ((Wa [46] ((Wa [101,69] (Lib.trimPrefix s [45])).1)).2.1)),.string (bs (Lib.trimPrefix (Lib.trimPrefix ((Wa [101,69] (Lib.trimPrefix s [45])).2.1) [45]) [43]))]) O isAgg89 sizeOf89 O (hF.cellsAll 0 O) (v:=.bool (decide ((((((Wa [46] ((Wa [101,69] (Lib.trimPrefix s [45])).1)).1:Str)[0]'(hpos)).toNat:Int):Int)≠(48:Int)))) O) ?_))
 refine ⟨?_,hF.same⟩
 simp_all [Zb,Bf,Rq,Oi]
 refine Qa (Ga (Ia (Ca (Qc O) ?_)))
 refine Jb hF (Sm (Lib.trimPrefix ((Wa [101,69] (Lib.trimPrefix s [45])).2.1) [45]) _) (Cb Ww O O) ?_
 clear hF; intro w hF
 refine Ca (Pn O) (Ea ?_)
 refine Mi O O (fun hc2=>?_) (fun hc2=>?_)
 refine Ia (Tc (Wj isAgg89 sizeOf89 O hF.F 0 O O) ?_)
 refine Ll hF sizeOf89 O O Vm ?_
 clear hF; rintro w hF -
 refine Ca (Hc O) (Ea ?_)
 refine Ub (Rb (Sa (Ve O (l:=[.bool (Lib.hasPrefix s [45]),.bool (Lib.hasPrefix ((Wa [101,69] (Lib.trimPrefix s [45])).2.1) [45]),.string (bs []),.string (bs []),.string (bs [])]) O isAgg89 sizeOf89 O (hF.cellsAll 0 O) (v:=.bool false) O) ?_))
 refine ⟨?_,hF.same⟩
 simp_all [Zb,Bf,Rq,Oi]
 refine Qa (Ga (Ia (Ca (Qc O) (Ca (Ec O1 O) ?_))))
 refine Mq (.string _) hF sizeOf9 O O Vm sI4 ?_
 clear hF; rintro w hF -
 refine Bc (Ca (Qc O) ?_)
 refine Jb hF (FH ((Wa [101,69] (Lib.trimPrefix s [45])).1) [46] (by have:=Zh s [45]; have:=Hg [101,69] (Lib.trimPrefix s [45]); omega) _) (Vb FI O O O) ?_
 clear hF; intro w hF
 refine Ca (Ul O) (Ca (D7 O O) (Ca (D7 O O) (Ca (Ss O O) (Ca (Rd O) (Ca (Rd O) (Ca (Hc O) (Bc (Ca (Qc O) (Ca (Qc O) (Ca (Ec Hx O) ?_))))))))))
 refine Mq (.string _) hF sizeOf9 O O Vm ZR ?_
 clear hF; rintro w hF -
 refine Ca (Ec Gu O) ?_
 refine Mq (.string _) hF sizeOf9 O O Vm TX ?_
 clear hF; rintro w hF -
 refine Ea (Ha (Ia (Ca (Qc O) ?_)))
 refine Jb hF (Sm ((Wa [46] ((Wa [101,69] (Lib.trimPrefix s [45])).1)).1) _) (Cb Ww O O) ?_
 clear hF; intro w hF
 refine Ca (Pn O) (Ca (Jc O) ?_)
 refine Jf (d:=52) O (fun hg4=>?_) (fun hg4=>?_)
 refine Da (Da (Da (Da (Da (Da (Ca (Ic O O) (Ea (Ae O (Ia (Tc (Wj isAgg89 sizeOf89 O hF.F 0 O O) ?_))))))))))
 refine Ll hF sizeOf89 O O Vm ?_
 clear hF; rintro w hF -
 refine Ca (Hc O) (Ea ?_)
 refine Ub (Rb (Sa (Ve O (l:=[.bool (Lib.hasPrefix s [45]),.bool (Lib.hasPrefix ((Wa [101,69] (Lib.trimPrefix s [45])).2.1) [45]),.string (bs ((Wa [46] ((Wa [101,69] (Lib.trimPrefix s [45])).1)).1)),.string (bs ((Wa [46] ((Wa [101,69] (Lib.trimPrefix s [45])).1)).2.1)),.string (bs (Lib.trimPrefix ((Wa [101,69] (Lib.trimPrefix s [45])).2.1) [45]))]) O isAgg89 sizeOf89 O (hF.cellsAll 0 O) (v:=.bool false) O) ?_))
 refine ⟨?_,hF.same⟩
 simp_all [Zb,Bf,Rq,Oi]
 refine Ca (Jc O) (Ca (Jc O) ?_)
 refine Jf (d:=54) O (fun hg5=>?_) (fun hg5=>?_)
 refine Ca (Qc O) ?_
 refine Jb hF (Sm ((Wa [46] ((Wa [101,69] (Lib.trimPrefix s [45])).1)).2.1) _) (Cb Ww O O) ?_
 clear hF; intro w hF
 refine Ca (Pn O) (Ca (Ic O O) (Ca (Gc O O) (Ea ?_)))
 refine Mi O O (fun hc3=>?_) (fun hc3=>?_)
 refine Ia (Tc (Wj isAgg89 sizeOf89 O hF.F 0 O O) ?_)
 refine Ll hF sizeOf89 O O Vm ?_
 clear hF; rintro w hF -
 refine Ca (Hc O) (Ea ?_)
 refine Ub (Rb (Sa (Ve O (l:=[.bool (Lib.hasPrefix s [45]),.bool (Lib.hasPrefix ((Wa [101,69] (Lib.trimPrefix s [45])).2.1) [45]),.string (bs ((Wa [46] ((Wa [101,69] (Lib.trimPrefix s [45])).1)).1)),.string (bs ((Wa [46] ((Wa [101,69] (Lib.trimPrefix s [45])).1)).2.1)),.string (bs (Lib.trimPrefix ((Wa [101,69] (Lib.trimPrefix s [45])).2.1) [45]))]) O isAgg89 sizeOf89 O (hF.cellsAll 0 O) (v:=.bool false) O) ?_))
 refine ⟨?_,hF.same⟩
 simp_all [Zb,Bf,Rq,Oi]
 refine Qa (Ga (Ha ?_))
 refine Ff (zs:=[]) (.free 0 (.free 1 (.free 2 (.free 3 (.free 4 (.free 5 (.free 6 (.free 7 (.act 8 (.free 9 .nil)))))))))) hF ?_
 clear hF; intro w hF
 refine Uk O (Wj isAgg89 sizeOf89 O C0 0 O O) (Db O (Qc O) (Db O (Ay O O) (Db O (Jc O) ?_)))
 refine Ik (d:=64) O (fun hg6=>?_) (fun hg6=>?_)
 refine Jd O ?_
 refine Jd O ?_
 refine Jd O ?_
 refine Db O (Ic O O) ?_
 refine Tu O hF sizeOf89 O O Vm ?_
 clear hF; rintro w hF -
 refine ⟨hF,?_⟩
 refine Db O (Hc O) (Mc (Ga ?_))
 refine Ub (Rb (Sa (Ve O (l:=[.bool (Lib.hasPrefix s [45]),.bool (Lib.hasPrefix ((Wa [101,69] (Lib.trimPrefix s [45])).2.1) [45]),.string (bs ((Wa [46] ((Wa [101,69] (Lib.trimPrefix s [45])).1)).1)),.string (bs ((Wa [46] ((Wa [101,69] (Lib.trimPrefix s [45])).1)).2.1)),.string (bs (Lib.trimPrefix ((Wa [101,69] (Lib.trimPrefix s [45])).2.1) [45]))]) O isAgg89 sizeOf89 O (hF.cellsAll 0 O) (v:=.bool true) O) ?_))
 refine ⟨?_,hF.same⟩
 simp_all [Zb,Bf,Rq,Oi]
 refine Db O (Qc O) ?_
 have hpos:=List.length_pos_iff.2 (Eh (s:=(Wa [46] (Wa [101,69] (Lib.trimPrefix s [45])).1).1) (by simp_all))
 refine Oa O (v:=.int .u8 (((((Wa [46] ((Wa [101,69] (Lib.trimPrefix s [45])).1)).1:Str)[0]'(hpos)).toNat:Int))) (fun w hC=>Kd (0) underlying9 O O (hpos)) (Db O (Sq O O) (Db O (Gc O O) ?_))
 refine Tu O hF sizeOf89 O O Vm ?_
 clear hF; rintro w hF -
 refine ⟨hF,?_⟩
 refine Db O (Hc O) (Mc (Ga ?_))
 refine Ub (Rb (Sa (Ve O (l:=[.bool (Lib.hasPrefix s [45]),.bool (Lib.hasPrefix ((Wa [101,69] (Lib.trimPrefix s [45])).2.1) [45]),.string (bs ((Wa [46] ((Wa [101,69] (Lib.trimPrefix s [45])).1)).1)),.string (bs ((Wa [46] ((Wa [101,69] (Lib.trimPrefix s [45])).1)).2.1)),.string (bs (Lib.trimPrefix ((Wa [101,69] (Lib.trimPrefix s [45])).2.1) [45]))]) O isAgg89 sizeOf89 O (hF.cellsAll 0 O) (v:=.bool (decide ((((((Wa [46] ((Wa [101,69] (Lib.trimPrefix s [45])).1)).1:Str)[0]'(hpos)).toNat:Int):Int)≠(48:Int)))) O) ?_))
 refine ⟨?_,hF.same⟩
 simp_all [Zb,Bf,Rq,Oi]
 refine Da (Da (Da (Ca (Gc O O) (Ca (Gc O O) (Ea (Qj O (Ha ?_)))))))
 refine Ff (zs:=[]) (.free 0 (.free 1 (.free 2 (.free 3 (.free 4 (.free 5 (.free 6 (.free 7 (.act 8 (.free 9 .nil)))))))))) hF ?_
 clear hF; intro w hF
 refine Uk O (Wj isAgg89 sizeOf89 O C0 0 O O) (Db O (Qc O) (Db O (Ay O O) (Db O (Jc O) ?_)))
 refine Ik (d:=64) O (fun hg7=>?_) (fun hg7=>?_)
 refine Jd O ?_
 refine Jd O ?_
 refine Jd O ?_
 refine Db O (Ic O O) ?_
 refine Tu O hF sizeOf89 O O Vm ?_
 clear hF; rintro w hF -
 refine ⟨hF,?_⟩
 refine Db O (Hc O) (Mc (Ga ?_))
 refine Ub (Rb (Sa (Ve O (l:=[.bool (Lib.hasPrefix s [45]),.bool (Lib.hasPrefix ((Wa [101,69] (Lib.trimPrefix s [45])).2.1) [45]),.string (bs ((Wa [46] ((Wa [101,69] (Lib.trimPrefix s [45])).1)).1)),.string (bs ((Wa [46] ((Wa [101,69] (Lib.trimPrefix s [45])).1)).2.1)),.string (bs (Lib.trimPrefix ((Wa [101,69] (Lib.trimPrefix s [45])).2.1) [45]))]) O isAgg89 sizeOf89 O (hF.cellsAll 0 O) (v:=.bool true) O) ?_))
 refine ⟨?_,hF.same⟩
 simp_all [Zb,Bf,Rq,Oi]
 refine Db O (Qc O) ?_
 have hpos:=List.length_pos_iff.2 (Eh (s:=(Wa [46] (Wa [101,69] (Lib.trimPrefix s [45])).1).1) (by simp_all))
 refine Oa O (v:=.int .u8 (((((Wa [46] ((Wa [101,69] (Lib.trimPrefix s [45])).1)).1:Str)[0]'(hpos)).toNat:Int))) (fun w hC=>Kd (0) underlying9 O O (hpos)) (Db O (Sq O O) (Db O (Gc O O) ?_))
 refine Tu O hF sizeOf89 O O Vm ?_
 clear hF; rintro w hF -
 refine ⟨hF,?_⟩
 refine Db O (Hc O) (Mc (Ga ?_))
 refine Ub (Rb (Sa (Ve O (l:=[.bool (Lib.hasPrefix s [45]),.bool (Lib.hasPrefix ((Wa [101,69] (Lib.trimPrefix s [45])).2.1) [45]),.string (bs ((Wa [46] ((Wa [101,69] (Lib.trimPrefix s [45])).1)).1)),.string (bs ((Wa [46] ((Wa [101,69] (Lib.trimPrefix s [45])).1)).2.1)),.string (bs (Lib.trimPrefix ((Wa [101,69] (Lib.trimPrefix s [45])).2.1) [45]))]) O isAgg89 sizeOf89 O (hF.cellsAll 0 O) (v:=.bool (decide ((((((Wa [46] ((Wa [101,69] (Lib.trimPrefix s [45])).1)).1:Str)[0]'(hpos)).toNat:Int):Int)≠(48:Int)))) O) ?_))
 refine ⟨?_,hF.same⟩
 simp_all [Zb,Bf,Rq,Oi]
 refine Qa (Ga (Ia (Ca (Qc O) (Ca (Ec O1 O) ?_))))
 refine Mq (.string _) hF sizeOf9 O O Vm sI4 ?_
 clear hF; rintro w hF -
 refine Bc (Ca (Qc O) ?_)
 refine Jb hF (FH ((Wa [101,69] (Lib.trimPrefix s [45])).1) [46] (by have:=Zh s [45]; have:=Hg [101,69] (Lib.trimPrefix s [45]); omega) _) (Vb FI O O O) ?_
 clear hF; intro w hF
 refine Ca (Ul O) (Ca (D7 O O) (Ca (D7 O O) (Ca (Ss O O) (Ca (Rd O) (Ca (Rd O) (Ca (Hc O) (Bc (Ca (Qc O) (Ca (Qc O) (Ca (Ec Hx O) ?_))))))))))
 refine Mq (.string _) hF sizeOf9 O O Vm ZR ?_
 clear hF; rintro w hF -
 refine Ca (Ec Gu O) ?_
 refine Mq (.string _) hF sizeOf9 O O Vm TX ?_
 clear hF; rintro w hF -
 refine Ea (Ha (Ia (Ca (Qc O) ?_)))
 refine Jb hF (Sm ((Wa [46] ((Wa [101,69] (Lib.trimPrefix s [45])).1)).1) _) (Cb Ww O O) ?_
 clear hF; intro w hF
 refine Ca (Pn O) (Ca (Jc O) ?_)
 refine Jf (d:=52) O (fun hg8=>?_) (fun hg8=>?_)
 refine Da (Da (Da (Da (Da (Da (Ca (Ic O O) (Ea (Ae O (Ia (Tc (Wj isAgg89 sizeOf89 O hF.F 0 O O) ?_))))))))))
 refine Ll hF sizeOf89 O O Vm ?_
 clear hF; rintro w hF -
 refine Ca (Hc O) (Ea ?_)
 refine Ub (Rb (Sa (Ve O (l:=[.bool (Lib.hasPrefix s [45]),.bool false,.string (bs ((Wa [46] ((Wa [101,69] (Lib.trimPrefix s [45])).1)).1)),.string (bs ((Wa [46] ((Wa [101,69] (Lib.trimPrefix s [45])).1)).2.1)),.string (bs ((Wa [101,69] (Lib.trimPrefix s [45])).2.1))]) O isAgg89 sizeOf89 O (hF.cellsAll 0 O) (v:=.bool false) O) ?_))
 refine ⟨?_,hF.same⟩
 simp_all [Zb,Bf,Rq,Oi]
 refine Ca (Jc O) (Ca (Jc O) ?_)
 refine Jf (d:=54) O (fun hg9=>?_) (fun hg9=>?_)
 refine Ca (Qc O) ?_
 refine Jb hF (Sm ((Wa [46] ((Wa [101,69] (Lib.trimPrefix s [45])).1)).2.1) _) (Cb Ww O O) ?_
 clear hF; intro w hF
 refine Ca (Pn O) (Ca (Ic O O) (Ca (Gc O O) (Ea ?_)))
 refine Mi O O (fun hc3=>?_) (fun hc3=>?_)
 refine Ia (Tc (Wj isAgg89 sizeOf89 O hF.F 0 O O) ?_)
 refine Ll hF sizeOf89 O O Vm ?_
 clear hF; rintro w hF -
 refine Ca (Hc O) (Ea ?_)
 refine Ub (Rb (Sa (Ve O (l:=[.bool (Lib.hasPrefix s [45]),.bool false,.string (bs ((Wa [46] ((Wa [101,69] (Lib.trimPrefix s [45])).1)).1)),.string (bs ((Wa [46] ((Wa [101,69] (Lib.trimPrefix s [45])).1)).2.1)),.string (bs ((Wa [101,69] (Lib.trimPrefix s [45])).2.1))]) O isAgg89 sizeOf89 O (hF.cellsAll 0 O) (v:=.bool false) O) ?_))
 refine ⟨?_,hF.same⟩
 simp_all [Zb,Bf,Rq,Oi]
 refine Qa (Ga (Ha ?_))
 refine Ff (zs:=[]) (.free 0 (.free 1 (.free 2 (.free 3 (.free 4 (.free 5 (.free 6 (.free 7 (.act 8 (.free 9 .nil)))))))))) hF ?_
 clear hF; intro w hF
 refine Uk O (Wj isAgg89 sizeOf89 O C0 0 O O) (Db O (Qc O) (Db O (Ay O O) (Db O (Jc O) ?_)))
 refine Ik (d:=64) O (fun hg10=>?_) (fun hg10=>?_)
 refine Jd O ?_
 refine Jd O ?_
 refine Jd O ?_
 refine Db O (Ic O O) ?_
 refine Tu O hF sizeOf89 O O Vm ?_
 clear hF; rintro w hF -
 refine ⟨hF,?_⟩
 refine Db O (Hc O) (Mc (Ga ?_))
 refine Ub (Rb (Sa (Ve O (l:=[.bool (Lib.hasPrefix s [45]),.bool false,.string (bs ((Wa [46] ((Wa [101,69] (Lib.trimPrefix s [45])).1)).1)),.string (bs ((Wa [46] ((Wa [101,69] (Lib.trimPrefix s [45])).1)).2.1)),.string (bs ((Wa [101,69] (Lib.trimPrefix s [45])).2.1))]) O isAgg89 sizeOf89 O (hF.cellsAll 0 O) (v:=.bool true) O) ?_))
 refine ⟨?_,hF.same⟩
 simp_all [Zb,Bf,Rq,Oi]
 refine Db O (Qc O) ?_
 have hpos:=List.length_pos_iff.2 (Eh (s:=(Wa [46] (Wa [101,69] (Lib.trimPrefix s [45])).1).1) (by simp_all))
 refine Oa O (v:=.int .u8 (((((Wa [46] ((Wa [101,69] (Lib.trimPrefix s [45])).1)).1:Str)[0]'(hpos)).toNat:Int))) (fun w hC=>Kd (0) underlying9 O O (hpos)) (Db O (Sq O O) (Db O (Gc O O) ?_))
 refine Tu O hF sizeOf89 O O Vm ?_
 clear hF; rintro w hF -
 refine ⟨hF,?_⟩
 refine Db O (Hc O) (Mc (Ga ?_))
 refine Ub (Rb (Sa (Ve O (l:=[.bool (Lib.hasPrefix s [45]),.bool false,.string (bs ((Wa [46] ((Wa [101,69] (Lib.trimPrefix s [45])).1)).1)),.string (bs ((Wa [46] ((Wa [101,69] (Lib.trimPrefix s [45])).1)).2.1)),.string (bs ((Wa [101,69] (Lib.trimPrefix s [45])).2.1))]) O isAgg89 sizeOf89 O (hF.cellsAll 0 O) (v:=.bool (decide ((((((Wa [46] ((Wa [101,69] (Lib.trimPrefix s [45])).1)).1:Str)[0]'(hpos)).toNat:Int):Int)≠(48:Int)))) O) ?_))
 refine ⟨?_,hF.same⟩
 simp_all [Zb,Bf,Rq,Oi]
 refine Da (Da (Da (Ca (Gc O O) (Ca (Gc O O) (Ea (Qj O (Ha ?_)))))))
 refine Ff (zs:=[]) (.free 0 (.free 1 (.free 2 (.free 3 (.free 4 (.free 5 (.free 6 (.free 7 (.act 8 (.free 9 .nil)))))))))) hF ?_
 clear hF; intro w hF
 refine Uk O (Wj isAgg89 sizeOf89 O C0 0 O O) (Db O (Qc O) (Db O (Ay O O) (Db O (Jc O) ?_)))
 refine Ik (d:=64) O (fun hg11=>?_) (fun hg11=>?_)
 refine Jd O ?_
 refine Jd O ?_
 refine Jd O ?_
 refine Db O (Ic O O) ?_
 refine Tu O hF sizeOf89 O O Vm ?_
 clear hF; rintro w hF -
 refine ⟨hF,?_⟩
 refine Db O (Hc O) (Mc (Ga ?_))
 refine Ub (Rb (Sa (Ve O (l:=[.bool (Lib.hasPrefix s [45]),.bool false,.string (bs ((Wa [46] ((Wa [101,69] (Lib.trimPrefix s [45])).1)).1)),.string (bs ((Wa [46] ((Wa [101,69] (Lib.trimPrefix s [45])).1)).2.1)),.string (bs ((Wa [101,69] (Lib.trimPrefix s [45])).2.1))]) O isAgg89 sizeOf89 O (hF.cellsAll 0 O) (v:=.bool true) O) ?_))
 refine ⟨?_,hF.same⟩
 simp_all [Zb,Bf,Rq,Oi]
 refine Db O (Qc O) ?_
 have hpos:=List.length_pos_iff.2 (Eh (s:=(Wa [46] (Wa [101,69] (Lib.trimPrefix s [45])).1).1) (by simp_all))
 refine Oa O (v:=.int .u8 (((((Wa [46] ((Wa [101,69] (Lib.trimPrefix s [45])).1)).1:Str)[0]'(hpos)).toNat:Int))) (fun w hC=>Kd (0) underlying9 O O (hpos)) (Db O (Sq O O) (Db O (Gc O O) ?_))
 refine Tu O hF sizeOf89 O O Vm ?_
 clear hF; rintro w hF -
 refine ⟨hF,?_⟩
 refine Db O (Hc O) (Mc (Ga ?_))
 refine Ub (Rb (Sa (Ve O (l:=[.bool (Lib.hasPrefix s [45]),.bool false,.string (bs ((Wa [46] ((Wa [101,69] (Lib.trimPrefix s [45])).1)).1)),.string (bs ((Wa [46] ((Wa [101,69] (Lib.trimPrefix s [45])).1)).2.1)),.string (bs ((Wa [101,69] (Lib.trimPrefix s [45])).2.1))]) O isAgg89 sizeOf89 O (hF.cellsAll 0 O) (v:=.bool (decide ((((((Wa [46] ((Wa [101,69] (Lib.trimPrefix s [45])).1)).1:Str)[0]'(hpos)).toNat:Int):Int)≠(48:Int)))) O) ?_))
 refine ⟨?_,hF.same⟩
 simp_all [Zb,Bf,Rq,Oi]
end Go.Scarf
